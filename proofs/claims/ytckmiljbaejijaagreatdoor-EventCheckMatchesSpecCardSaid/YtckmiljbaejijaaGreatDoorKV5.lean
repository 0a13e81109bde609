/- Walks: what each function computes, for every argument; no condition but those that stand in the statements. -/
import Derived.Test.YtckmiljbaejijaaGreatDoorKV0
import Derived.Test.YtckmiljbaejijaaGreatDoorKV4
import Derived.Test.YtckmiljbaejijaaGreatDoorKV3
namespace Go.Proofs.YtckmiljbaejijaaGreatDoor.L
open Go.RowKit Go.OB Go.Lf
set_option maxHeartbeats 4000000 in
theorem F_event_tracksIn_w (p0 : Rules) (v1 : Value) (v2 : Value) (v3 : Value) (r : (List Str)) (hF : F_event_tracksIn p0 = some r) (O S : List Nat) (w : World) (H : Hd O w w S [.fz (.sl Rp.str v1 p0.Phases), .fz (.sl rMoveT v2 p0.Moves), .fz (.sl rRule v3 p0.Rules)]) :
  Calls Tryz.prog 95 ([.agg [v1, v2, v3].toArray] : List Value).toArray w fun e w' => ∃ u7, e = .returned (u7) ∧ Hd O w w' S [.own Rp.str u7 9 r] := by
 unfold F_event_tracksIn at hF
 refine zY 38 Tryz.func95 rfl rfl rfl ?_
 refine zC fun K8 hK8 => ?_
 refine zB ?_
 refine yZ rfl rfl (wF (cs := [v1, v2, v3]) rfl H) ?_
 rintro _ w11 ⟨b9, rfl, H⟩
 refine zI (.slice none 0 0) ?_
 refine (zD (zA (hK8 _ _ ?_)))
 refine zC fun K12 hK12 => ?_
 refine zB ?_
 refine zI (.slice none 0 0) ?_
 refine (zD (zA (hK12 _ _ ?_)))
 obtain ⟨g171, hF, hK174⟩ := zG hF
 refine yL [3, 5, 8, 9, 10, 11, 12, 13, 14, 15, 16, 17, 18, 19, 20] (fun (g : Value) => [(3, g)]) (fun g wl => Hd O w wl S [.own Rp.str g 9 g171, .fz (.sl Rp.str v1 p0.Phases), .fz (.sl rMoveT v2 p0.Moves), .fz (.sl rRule v3 p0.Rules), .blk b9 [v1, v2, v3] 26]) ?_ ?_
 ·skip
  refine zC fun K175 hK175 => ?_
  refine zB ?_
  refine zH (fa26_1 rfl) ?_
  refine zH (zO one23 rfl (Cells.get (Blk.cells (H.item (i := 3) rfl)) (i := 1) rfl)) ?_
  obtain ⟨x176, e177, hF⟩ := zF hF
  obtain ⟨a178, c179, q180⟩ := SlF.len ((H.item (i := 1) rfl))
  refine zH (yN (xM u23 q180) (congrArg (Value.int .i64) e177)) ?_
  refine zK (.int .i64 0) ?_
  refine (zD (zA (hK175 _ _ ?_)))
  refine yG ?_
  have H := own_nil H Rp.str 9
  unfold F_event_tracksIn_L1 at hF
  obtain ⟨B330, n331, eB332, hF⟩ := yS hF
  refine xE [3, 5, 11, 12, 13, 14, 15, 16, 17, 18, 19, 20] (fun (g : Nat × (List Str) × Int × Value) => [(3, g.2.2.2), (11, .int .i64 g.2.2.1)]) (fun g wl => Hd O w wl S [.own Rp.str g.2.2.2 9 g.2.1, .fz (.sl Rp.str v1 p0.Phases), .fz (.sl rMoveT v2 p0.Moves), .fz (.sl rRule v3 p0.Rules), .blk b9 [v1, v2, v3] 26] ∧ loopN B330 g.1 (g.2.1, g.2.2.1) = some g171) (fun g => g.1) (n331, [], 0, .slice none 0 0) (zJ rfl (zJ rfl zL)) ⟨H.pick [4, 0, 1, 2, 3] (by decide), hF⟩ ?_
  clear H hF
  rintro ⟨n331, g326, g328, v327⟩ ρ w334 ⟨H, hF⟩
  obtain ⟨n335, rfl, hF⟩ := yX hF
  have hF := yY eB332 hF
  refine zC fun K336 hK336 => ?_
  refine zB ?_
  obtain ⟨x337, e338, hF⟩ := zF hF
  refine zH (zM (xI (a := g328) (b := x176) rfl rfl) e338) ?_
  refine (zD (zA (hK336 _ _ ?_)))
  refine zC fun K340 hK340 => ?_
  refine yA (b := x337) rfl (fun c341 => ?_) (fun c341 => ?_)
  ·have hF := zQ c341 hF
   refine (zX (zA (hK340 _ _ ?_)))
   refine zC fun K372 hK372 => ?_
   refine yG ?_
   refine zC fun K373 hK373 => ?_
   refine zB ?_
   obtain ⟨x374, e375, hF⟩ := zG hF
   obtain ⟨b376, o377, c378, cs379, q380, h383, h381, h382, h384⟩ := rd_at (H.item (i := 2) rfl) e375
   obtain ⟨v385, rfl, h386⟩ := rMoveT_open h383
   have H := H.fzs [.at b376 (o377 + g328.toNat * 9) _, .sl rCond v385 x374.When.Kids] ⟨⟨h381, h382, h384⟩, h386, trivial⟩
   refine zH (wC u23 sz122 q380 rfl (yP e375).1 (yP e375).2.1 rfl rfl) ?_
   refine zH (yN (yJ (cs := [.string (bs x374.From), .string (bs x374.To), .int .i64 x374.When.Kind, .string (bs x374.When.Name), .string (bs x374.When.Other), .int .i64 x374.When.Op, .int .i64 x374.When.N, .int .i64 x374.When.Frames, v385]) agg122 rfl sz122 rfl (H.item (i := 5) rfl).2.2) rfl) ?_
   refine yZ rfl rfl (xN zero122 H) ?_
   rintro _ w391 ⟨b389, rfl, H⟩
   refine xH rfl (xC (vs := [.string (bs x374.From), .string (bs x374.To), .int .i64 x374.When.Kind, .string (bs x374.When.Name), .string (bs x374.When.Other), .int .i64 x374.When.Op, .int .i64 x374.When.N, .int .i64 x374.When.Frames, v385]) H 7 rfl sz122 rfl rfl rfl ⟨rfl, rfl, rfl, rfl, rfl, rfl, rfl, rfl, (slf_one (H.item (i := 6) rfl)), trivial⟩ rfl) ?_
   rintro w392 H
   refine (zD (zA (hK373 _ _ ?_)))
   refine zB ?_
   refine zK v327 ?_
   refine zH (fa122_2 rfl) ?_
   refine zH (yN (yJ (cs := [.int .i64 x374.When.Kind, .string (bs x374.When.Name), .string (bs x374.When.Other), .int .i64 x374.When.Op, .int .i64 x374.When.N, .int .i64 x374.When.Frames, v385]) agg70 rfl sz70 rfl (Cells.drop (Blk.cells (H.item (i := 7) rfl)) 2 7)) rfl) ?_
   obtain ⟨x393, e394, hF⟩ := zG hF
   refine zZ rfl rfl (zT en152 rfl) (F_event_namesIn_w x374.When v385 _ e394 _ _ _ (H.enter [] [6] (by decide) rfl)) ?_
   rintro _ w397 ⟨v395, rfl, G398⟩
   have H := H.back1 [6] rfl G398
   refine ⟨_, rfl, ?_⟩
   obtain ⟨x399, e400, hF⟩ := zG hF
   refine yZ rfl rfl (Lx_app H (i := 0) rfl u22 el9 rfl rfl (Sr.of_own (H.item (i := 8) rfl)) e400) ?_
   rintro v401 w402 H
   refine zI v401 ?_
   refine (zD (yT (zA (hK372 _ _ ?_))))
   refine zB ?_
   obtain ⟨x403, e404, hF⟩ := zF hF
   refine zH (xP (a := g328) (b := 1) rfl rfl e404) ?_
   refine zK (.int .i64 x403) ?_
   exact (zD (zA (meet ⟨(n335, x399, x403, v401), (zJ rfl (zJ rfl zL)), ⟨H.pick [0, 1, 2, 3, 4] (by decide), hF⟩, Nat.lt_succ_self _⟩)))
  have hF := zS c341 hF
  obtain rfl := someI hF
  exact (xJ (yO (yO (xB (zA (meet ⟨v327, (zJ rfl zL), H.pick [0, 1, 2, 3, 4] (by decide)⟩))))))
 rintro v172 ρ w173 H
 have hF := hK174
 obtain ⟨g558, hF, hK561⟩ := zG hF
 refine yL [3, 7, 21, 22, 23, 24, 25, 26, 27, 28, 29, 30, 31, 32, 33] (fun (g : Value) => [(3, g)]) (fun g wl => Hd O w wl S [.own Rp.str g 9 g558]) ?_ ?_
 ·skip
  refine zC fun K562 hK562 => ?_
  refine zB ?_
  refine zH (fa26_2 rfl) ?_
  refine zH (zO one24 rfl (Cells.get (Blk.cells (H.item (i := 4) rfl)) (i := 2) rfl)) ?_
  obtain ⟨x563, e564, hF⟩ := zF hF
  obtain ⟨a565, c566, q567⟩ := SlF.len ((H.item (i := 3) rfl))
  refine zH (yN (xM u24 q567) (congrArg (Value.int .i64) e564)) ?_
  refine zK (.int .i64 0) ?_
  refine (zD (zA (hK562 _ _ ?_)))
  refine yG ?_
  unfold F_event_tracksIn_L2 at hF
  obtain ⟨B712, n713, eB714, hF⟩ := yS hF
  refine xE [3, 7, 24, 25, 26, 27, 28, 29, 30, 31, 32, 33] (fun (g : Nat × (List Str) × Int × Value) => [(3, g.2.2.2), (24, .int .i64 g.2.2.1)]) (fun g wl => Hd O w wl S [.own Rp.str g.2.2.2 9 g.2.1, .fz (.sl rRule v3 p0.Rules)] ∧ loopN B712 g.1 (g.2.1, g.2.2.1) = some g558) (fun g => g.1) (n713, g171, 0, v172) (zJ rfl (zJ rfl zL)) ⟨H.pick [0, 3] (by decide), hF⟩ ?_
  clear H hF
  rintro ⟨n713, g709, g711, v710⟩ ρ w716 ⟨H, hF⟩
  obtain ⟨n717, rfl, hF⟩ := yX hF
  have hF := yY eB714 hF
  refine zC fun K718 hK718 => ?_
  refine zB ?_
  obtain ⟨x719, e720, hF⟩ := zF hF
  refine zH (zM (xI (a := g711) (b := x563) rfl rfl) e720) ?_
  refine (zD (zA (hK718 _ _ ?_)))
  refine zC fun K722 hK722 => ?_
  refine yA (b := x719) rfl (fun c723 => ?_) (fun c723 => ?_)
  ·have hF := zQ c723 hF
   refine (zX (zA (hK722 _ _ ?_)))
   refine zC fun K754 hK754 => ?_
   refine yG ?_
   refine zC fun K755 hK755 => ?_
   refine zB ?_
   obtain ⟨x756, e757, hF⟩ := zG hF
   obtain ⟨b758, o759, c760, cs761, q762, h765, h763, h764, h766⟩ := rd_at (H.item (i := 1) rfl) e757
   obtain ⟨v767, rfl, h768⟩ := rRule_open h765
   have H := H.fzs [.at b758 (o759 + g711.toNat * 8) _, .sl rCond v767 x756.When.Kids] ⟨⟨h763, h764, h766⟩, h768, trivial⟩
   refine zH (wC u24 sz95 q762 rfl (yP e757).1 (yP e757).2.1 rfl rfl) ?_
   refine zH (yN (yJ (cs := [.string (bs x756.Name), .int .i64 x756.When.Kind, .string (bs x756.When.Name), .string (bs x756.When.Other), .int .i64 x756.When.Op, .int .i64 x756.When.N, .int .i64 x756.When.Frames, v767]) agg95 rfl sz95 rfl (H.item (i := 2) rfl).2.2) rfl) ?_
   refine yZ rfl rfl (xN zero95 H) ?_
   rintro _ w773 ⟨b771, rfl, H⟩
   refine xH rfl (xC (vs := [.string (bs x756.Name), .int .i64 x756.When.Kind, .string (bs x756.When.Name), .string (bs x756.When.Other), .int .i64 x756.When.Op, .int .i64 x756.When.N, .int .i64 x756.When.Frames, v767]) H 4 rfl sz95 rfl rfl rfl ⟨rfl, rfl, rfl, rfl, rfl, rfl, rfl, (slf_one (H.item (i := 3) rfl)), trivial⟩ rfl) ?_
   rintro w774 H
   refine (zD (zA (hK755 _ _ ?_)))
   refine zB ?_
   refine zK v710 ?_
   refine zH (fa95_1 rfl) ?_
   refine zH (yN (yJ (cs := [.int .i64 x756.When.Kind, .string (bs x756.When.Name), .string (bs x756.When.Other), .int .i64 x756.When.Op, .int .i64 x756.When.N, .int .i64 x756.When.Frames, v767]) agg70 rfl sz70 rfl (Cells.drop (Blk.cells (H.item (i := 4) rfl)) 1 7)) rfl) ?_
   obtain ⟨x775, e776, hF⟩ := zG hF
   refine zZ rfl rfl (zT en152 rfl) (F_event_namesIn_w x756.When v767 _ e776 _ _ _ (H.enter [] [3] (by decide) rfl)) ?_
   rintro _ w779 ⟨v777, rfl, G780⟩
   have H := H.back1 [3] rfl G780
   refine ⟨_, rfl, ?_⟩
   obtain ⟨x781, e782, hF⟩ := zG hF
   refine yZ rfl rfl (Lx_app H (i := 0) rfl u22 el9 rfl rfl (Sr.of_own (H.item (i := 5) rfl)) e782) ?_
   rintro v783 w784 H
   refine zI v783 ?_
   refine (zD (yT (zA (hK754 _ _ ?_))))
   refine zB ?_
   obtain ⟨x785, e786, hF⟩ := zF hF
   refine zH (xP (a := g711) (b := 1) rfl rfl e786) ?_
   refine zK (.int .i64 x785) ?_
   exact (zD (zA (meet ⟨(n717, x781, x785, v783), (zJ rfl (zJ rfl zL)), ⟨H.pick [0, 1] (by decide), hF⟩, Nat.lt_succ_self _⟩)))
  have hF := zS c723 hF
  obtain rfl := someI hF
  exact (xJ (yO (yO (xB (zA (meet ⟨v710, (zJ rfl zL), H.pick [0] (by decide)⟩))))))
 rintro v559 ρ w560 H
 have hF := hK561
 refine zC fun K787 hK787 => ?_
 refine zB ?_
 refine zK v559 ?_
 obtain ⟨x788, e789, hF⟩ := zG hF
 refine zZ rfl rfl (zT en153 rfl) (E.X_SortStr_w g558 v559 _ e789 _ _ _ (H.enter [0] [] (by decide) rfl)) ?_
 rintro _ w790 ⟨rfl, G791⟩
 have H : Hd O _ w790 _ [.own Rp.str v559 9 x788] := H.back [0] [] rfl G791
 refine ⟨_, rfl, ?_⟩
 refine (zD (zA (hK787 _ _ ?_)))
 refine zC fun K792 hK792 => ?_
 refine zB ?_
 refine zK v559 ?_
 obtain ⟨x793, e794, hF⟩ := zG hF
 refine zZ rfl rfl (zT en155 rfl) (E.X_CompactStr_w x788 v559 _ e794 _ _ _ (H.enter [0] [] (by decide) rfl)) ?_
 rintro _ w797 ⟨v795, rfl, G798⟩
 have H : Hd O _ w797 _ [.own Rp.str v795 9 x793] := H.back [0] [] rfl G798
 refine ⟨_, rfl, ?_⟩
 refine zI v795 ?_
 refine (zD (zA (hK792 _ _ ?_)))
 obtain rfl := someI hF
 refine (yB (post1 (v1 := v795) rfl rfl ?_))
 exact ⟨v795, rfl, H.pick [0] (by decide)⟩
set_option maxHeartbeats 4000000 in
theorem F_event_Tracks_w (p0 : Rules) (v1 : Value) (v2 : Value) (v3 : Value) (r : (List Str) × Int) (hF : F_event_Tracks p0 = some r) (O S : List Nat) (w : World) (H : Hd O w w S [.fz (.sl Rp.str v1 p0.Phases), .fz (.sl rMoveT v2 p0.Moves), .fz (.sl rRule v3 p0.Rules)]) :
  Calls Tryz.prog 34 ([.agg [v1, v2, v3].toArray] : List Value).toArray w fun e w' => ∃ u7, e = .returned (.tuple #[u7, .int .i64 r.2]) ∧ Hd O w w' S [.own Rp.str u7 9 r.1] := by
 unfold F_event_Tracks at hF
 refine zY 12 Tryz.func34 rfl rfl rfl ?_
 refine zC fun K8 hK8 => ?_
 refine zB ?_
 refine yZ rfl rfl (wF (cs := [v1, v2, v3]) rfl H) ?_
 rintro _ w11 ⟨b9, rfl, H⟩
 refine zI (.slice none 0 0) ?_
 refine zI (.int .i64 0) ?_
 refine (zD (zA (hK8 _ _ ?_)))
 refine zC fun K23 hK23 => ?_
 refine zC fun K24 hK24 => ?_
 refine zB ?_
 refine zH (yN (yJ (cs := [v1, v2, v3]) agg26 rfl sz26 rfl (Blk.cells (H.item (i := 3) rfl))) rfl) ?_
 have H25 := H
 obtain ⟨x26, e27, hF⟩ := zG hF
 refine zZ rfl rfl (zT en31 rfl) (F_event_Check_w p0 v1 v2 v3 _ e27 _ _ _ (H.enter [] [0, 1, 2] (by decide) rfl)) ?_
 rintro _ w28 ⟨rfl, G29⟩
 have H := H25.step (G29.only : Only [] _ _)
 refine ⟨_, rfl, ?_⟩
 refine zI (.int .i64 x26) ?_
 refine (zD (zA (hK24 _ _ ?_)))
 refine zC fun K30 hK30 => ?_
 refine zB ?_
 refine zK (.int .i64 x26) ?_
 obtain ⟨x31, e32, hF⟩ := zF hF
 refine zH (zM (Do_neq (a := x26) (b := 0) rfl rfl) e32) ?_
 refine (zD (zA (hK30 _ _ ?_)))
 refine yA (b := x31) rfl (fun c33 => ?_) (fun c33 => ?_)
 ·have hF := zQ c33 hF
  refine zC fun K34 hK34 => ?_
  refine zB ?_
  refine zK (.int .i64 x26) ?_
  refine zI (.slice none 0 0) ?_
  refine zI (.int .i64 x26) ?_
  refine (zD (zA (hK34 _ _ ?_)))
  have H := own_nil H Rp.str 9
  obtain rfl := someI hF
  refine (yB (zW (post2 (v1 := .slice none 0 0) (v2 := .int .i64 x26) rfl rfl rfl ?_)))
  exact ⟨.slice none 0 0, rfl, H.pick [4] (by decide)⟩
 have hF := zS c33 hF
 refine (zX (zA (hK23 _ _ ?_)))
 refine zC fun K36 hK36 => ?_
 refine zB ?_
 refine zH (yN (yJ (cs := [v1, v2, v3]) agg26 rfl sz26 rfl (Blk.cells (H.item (i := 3) rfl))) rfl) ?_
 obtain ⟨x37, e38, hF⟩ := zG hF
 refine zZ rfl rfl (zT en95 rfl) (F_event_tracksIn_w p0 v1 v2 v3 _ e38 _ _ _ (H.enter [] [0, 1, 2] (by decide) rfl)) ?_
 rintro _ w41 ⟨v39, rfl, G42⟩
 have H := H.back1 [0, 1, 2] rfl G42
 refine ⟨_, rfl, ?_⟩
 refine zI v39 ?_
 refine zI (.int .i64 0) ?_
 refine (zD (zA (hK36 _ _ ?_)))
 obtain rfl := someI hF
 refine (yB (post2 (v1 := v39) (v2 := .int .i64 0) rfl rfl rfl ?_))
 exact ⟨v39, rfl, H.pick [4] (by decide)⟩
set_option maxHeartbeats 4000000 in
theorem F_internal_strconv_AppendInt_w (p0 : List Int) (p1 : Int) (p2 : Int) (v1 : Value) (r : (List Int)) (hF : F_internal_strconv_AppendInt p0 p1 p2 = some r) (O S : List Nat) (w : World) (H : Hd O w w S [.own (Rp.int .u8) v1 5 p0, .fz (.at 3 0 ((Fl.arr 20 (Fl.int .u64)).f zN))]) :
  Calls Tryz.prog 166 ([v1, .int .i64 p1, .int .i64 p2] : List Value).toArray w fun e w' => ∃ u4, e = .returned (u4) ∧ Hd O w w' S [.own (Rp.int .u8) u4 5 r] := by
 unfold F_internal_strconv_AppendInt at hF
 refine zY 21 Tryz.func166 rfl rfl rfl ?_
 refine zC fun K5 hK5 => ?_
 refine zB ?_
 refine zI (.slice none 0 0) ?_
 refine (zD (zA (hK5 _ _ ?_)))
 refine zC fun K6 hK6 => ?_
 refine zB ?_
 refine zK (.int .i64 p1) ?_
 obtain ⟨x7, e8, hF⟩ := zF hF
 refine zH (Do_conv u2 u297 rfl e8) ?_
 refine zI (.int .u64 x7) ?_
 refine (zD (zA (hK6 _ _ ?_)))
 obtain ⟨j30, hF, hK29⟩ := zG hF
 refine yL [0, 7, 10, 11, 12, 13, 14, 15, 16] (fun (g : Value) => [(0, g), (7, .int .u64 j30.2)]) (fun g wl => Hd O w wl S [.own (Rp.int .u8) g 5 j30.1, .fz (.at 3 0 ((Fl.arr 20 (Fl.int .u64)).f zN))]) ?_ ?_
 ·skip
  refine zC fun K31 hK31 => ?_
  refine zB ?_
  refine zK (.int .i64 p1) ?_
  obtain ⟨x32, e33, hF⟩ := zF hF
  refine zH (zM (xI (a := p1) (b := 0) rfl rfl) e33) ?_
  refine (zD (zA (hK31 _ _ ?_)))
  refine yA (b := x32) rfl (fun c34 => ?_) (fun c34 => ?_)
  ·have hF := zQ c34 hF
   refine zC fun K35 hK35 => ?_
   refine zB ?_
   refine zK v1 ?_
   obtain ⟨x36, e37, hF⟩ := zF hF
   subst e37
   refine yZ rfl rfl (Lx_bs (r := (Rp.int .u8)) (xl := [45]) (cs := [.int .u8 45]) u61 el5 (by decide) (by decide) rfl (xU (vs := [.int .u8 45]) (by decide) rfl rfl ⟨rfl, trivial⟩ rfl) H ⟨[.int .u8 45], [], rfl, rfl, rfl⟩) ?_
   rintro v39 w40 H
   obtain ⟨x41, e42, hF⟩ := zG hF
   refine yZ rfl rfl (Lx_app H (i := 0) rfl u61 el5 rfl rfl (Sr.of_own (H.item (i := 2) rfl)) e42) ?_
   rintro v43 w44 H
   refine zI v43 ?_
   refine (zD (zA (hK35 _ _ ?_)))
   refine zB ?_
   refine zK (.int .u64 x7) ?_
   obtain ⟨x45, e46, hF⟩ := zF hF
   refine zH (Do_neg (a := x7) rfl e46) ?_
   refine zI (.int .u64 x45) ?_
   obtain rfl := someI hF
   exact (zD (zA (meet ⟨v43, (zJ rfl (zJ rfl zL)), H.pick [0, 1] (by decide)⟩)))
  have hF := zS c34 hF
  obtain rfl := someI hF
  exact (zX (zA (meet ⟨v1, (zJ rfl (zJ rfl zL)), H.pick [0, 1] (by decide)⟩)))
 rintro v26 ρ w28 H
 have hF := hK29
 obtain ⟨g25, g27⟩ := j30
 refine zC fun K47 hK47 => ?_
 refine zB ?_
 refine zK v26 ?_
 refine zK (.int .u64 g27) ?_
 refine zK (.int .i64 p2) ?_
 obtain ⟨x48, e49, hF⟩ := zG hF
 refine zZ rfl rfl (zT en208 rfl) (E.X_AppendUint_w g25 g27 p2 v26 _ e49 _ _ _ (H.enter [0] [1] (by decide) rfl)) ?_
 rintro _ w52 ⟨v50, rfl, G53⟩
 have H : Hd O _ w52 _ [.fz (.at 3 0 ((Fl.arr 20 (Fl.int .u64)).f zN)), .own (Rp.int .u8) v50 5 x48] := H.back [0] [1] rfl G53
 refine ⟨_, rfl, ?_⟩
 refine zI v50 ?_
 refine (zD (zA (hK47 _ _ ?_)))
 obtain rfl := someI hF
 refine (yB (post1 (v1 := v50) rfl rfl ?_))
 exact ⟨v50, rfl, H.pick [1] (by decide)⟩
set_option maxHeartbeats 4000000 in
theorem F_strconv_AppendInt_w (p0 : List Int) (p1 : Int) (p2 : Int) (v1 : Value) (r : (List Int)) (hF : F_strconv_AppendInt p0 p1 p2 = some r) (O S : List Nat) (w : World) (H : Hd O w w S [.own (Rp.int .u8) v1 5 p0, .fz (.at 3 0 ((Fl.arr 20 (Fl.int .u64)).f zN))]) :
  Calls Tryz.prog 112 ([v1, .int .i64 p1, .int .i64 p2] : List Value).toArray w fun e w' => ∃ u4, e = .returned (u4) ∧ Hd O w w' S [.own (Rp.int .u8) u4 5 r] := by
 unfold F_strconv_AppendInt at hF
 refine zY 11 Tryz.func112 rfl rfl rfl ?_
 refine zC fun K5 hK5 => ?_
 refine zB ?_
 refine zI (.slice none 0 0) ?_
 refine (zD (zA (hK5 _ _ ?_)))
 refine zC fun K6 hK6 => ?_
 refine zB ?_
 refine zK v1 ?_
 refine zK (.int .i64 p1) ?_
 refine zK (.int .i64 p2) ?_
 obtain ⟨x7, e8, hF⟩ := zG hF
 refine zZ rfl rfl (zT en166 rfl) (F_internal_strconv_AppendInt_w p0 p1 p2 v1 _ e8 _ _ _ (H.enter [0] [1] (by decide) rfl)) ?_
 rintro _ w11 ⟨v9, rfl, G12⟩
 have H : Hd O _ w11 _ [.fz (.at 3 0 ((Fl.arr 20 (Fl.int .u64)).f zN)), .own (Rp.int .u8) v9 5 x7] := H.back [0] [1] rfl G12
 refine ⟨_, rfl, ?_⟩
 refine zI v9 ?_
 refine (zD (zA (hK6 _ _ ?_)))
 obtain rfl := someI hF
 refine (yB (post1 (v1 := v9) rfl rfl ?_))
 exact ⟨v9, rfl, H.pick [1] (by decide)⟩
set_option maxHeartbeats 4000000 in
theorem F_ref0_Ink_Int_w (p0 : Orangeboxref0Ink) (p1 : Int) (b1 : Nat) (v2 : Value) (r : Orangeboxref0Ink) (hF : F_ref0_Ink_Int p0 p1 = some r) (O S : List Nat) (w : World) (H : Hd O w w S [.own (Rp.int .u8) v2 5 p0.out, .blk b1 [v2] 63, .fz (.at 3 0 ((Fl.arr 20 (Fl.int .u64)).f zN))]) :
  Calls Tryz.prog 47 ([.pointer (some ⟨b1, 0, none⟩), .int .i64 p1] : List Value).toArray w fun e w' => ∃ u6, e = .returned (.tuple #[]) ∧ Hd O w w' S [.own (Rp.int .u8) u6 5 r.out, .blk b1 [u6] 63] := by
 unfold F_ref0_Ink_Int at hF
 refine zY 22 Tryz.func47 rfl rfl rfl ?_
 refine zC fun K7 hK7 => ?_
 refine zB ?_
 refine zK (.pointer (some ⟨b1, 0, none⟩)) ?_
 refine zK (.pointer (some ⟨b1, 0, none⟩)) ?_
 refine zH (yM rfl) ?_
 refine zH (fa63_0 rfl) ?_
 refine zH (zO one61 rfl (Cells.get (Blk.cells (H.item (i := 1) rfl)) (i := 0) rfl)) ?_
 refine zK (.int .i64 p1) ?_
 obtain ⟨x8, e9, hF⟩ := zG hF
 refine zZ rfl rfl (zT en112 rfl) (F_strconv_AppendInt_w p0.out p1 10 v2 _ e9 _ _ _ (H.enter [0] [2] (by decide) rfl)) ?_
 rintro _ w12 ⟨v10, rfl, G13⟩
 have H : Hd O _ w12 _ [.blk b1 [v2] 63, .fz (.at 3 0 ((Fl.arr 20 (Fl.int .u64)).f zN)), .own (Rp.int .u8) v10 5 x8] := H.back [0] [2] rfl G13
 refine ⟨_, rfl, ?_⟩
 refine zH (yM rfl) ?_
 refine zH (fa63_0 rfl) ?_
 refine xH rfl (wH H 0 rfl sz61 rfl (v := v10) rfl (own_one (H.item (i := 2) rfl)) rfl) ?_
 rintro w14 H
 refine (zD (zA (hK7 _ _ ?_)))
 refine zB ?_
 refine zK (.pointer (some ⟨b1, 0, none⟩)) ?_
 refine zK (.pointer (some ⟨b1, 0, none⟩)) ?_
 refine zH (yM rfl) ?_
 refine zH (fa63_0 rfl) ?_
 refine zH (zO one61 rfl (Cells.get (Blk.cells (H.item (i := 0) rfl)) (i := 0) rfl)) ?_
 obtain ⟨x15, e16, hF⟩ := zF hF
 subst e16
 refine yZ rfl rfl (Lx_bs (r := (Rp.int .u8)) (xl := [32]) (cs := [.int .u8 32]) u61 el5 (by decide) (by decide) rfl (xU (vs := [.int .u8 32]) (by decide) rfl rfl ⟨rfl, trivial⟩ rfl) H ⟨[.int .u8 32], [], rfl, rfl, rfl⟩) ?_
 rintro v18 w19 H
 obtain ⟨x20, e21, hF⟩ := zG hF
 refine yZ rfl rfl (Lx_app H (i := 2) rfl u61 el5 rfl rfl (Sr.of_own (H.item (i := 3) rfl)) e21) ?_
 rintro v22 w23 H
 refine zH (yM rfl) ?_
 refine zH (fa63_0 rfl) ?_
 refine xH rfl (wH H 0 rfl sz61 rfl (v := v22) rfl (own_one (H.item (i := 2) rfl)) rfl) ?_
 rintro w24 H
 obtain rfl := someI hF
 refine (zD (post0n rfl ?_))
 exact ⟨v22, rfl, H.pick [2, 0] (by decide)⟩
set_option maxHeartbeats 4000000 in
theorem F_ref0_Ink_Text_w (p0 : Orangeboxref0Ink) (p1 : Str) (b1 : Nat) (v2 : Value) (r : Orangeboxref0Ink) (hF : F_ref0_Ink_Text p0 p1 = some r) (O S : List Nat) (w : World) (H : Hd O w w S [.own (Rp.int .u8) v2 5 p0.out, .blk b1 [v2] 63, .fz (.at 3 0 ((Fl.arr 20 (Fl.int .u64)).f zN))]) :
  Calls Tryz.prog 79 ([.pointer (some ⟨b1, 0, none⟩), .string (bs p1)] : List Value).toArray w fun e w' => ∃ u6, e = .returned (.tuple #[]) ∧ Hd O w w' S [.own (Rp.int .u8) u6 5 r.out, .blk b1 [u6] 63] := by
 unfold F_ref0_Ink_Text at hF
 refine zY 17 Tryz.func79 rfl rfl rfl ?_
 refine zC fun K7 hK7 => ?_
 refine zB ?_
 refine zK (.pointer (some ⟨b1, 0, none⟩)) ?_
 refine zK (.string (bs p1)) ?_
 obtain ⟨x8, e9, hF⟩ := zF hF
 refine zH (yN (Do_slen (s1 := p1) u9 rfl) (congrArg (Value.int .i64) e9)) ?_
 obtain ⟨x10, e11, hF⟩ := zG hF
 refine zZ rfl rfl (zT en47 rfl) (F_ref0_Ink_Int_w p0 x8 b1 v2 _ e11 _ _ _ (H.enter [0, 1] [2] (by decide) rfl)) ?_
 rintro _ w14 ⟨v12, rfl, G15⟩
 have H : Hd O _ w14 _ [.fz (.at 3 0 ((Fl.arr 20 (Fl.int .u64)).f zN)), .own (Rp.int .u8) v12 5 x10.out, .blk b1 [v12] 63] := H.back [0, 1] [2] rfl G15
 refine ⟨_, rfl, ?_⟩
 refine (zD (zA (hK7 _ _ ?_)))
 refine zB ?_
 refine zK (.pointer (some ⟨b1, 0, none⟩)) ?_
 refine zK (.pointer (some ⟨b1, 0, none⟩)) ?_
 refine zH (yM rfl) ?_
 refine zH (fa63_0 rfl) ?_
 refine zH (zO one61 rfl (Cells.get (Blk.cells (H.item (i := 2) rfl)) (i := 0) rfl)) ?_
 refine zK (.string (bs p1)) ?_
 obtain ⟨x16, e17, hF⟩ := zG hF
 refine yZ rfl rfl (Lx_appstr H (i := 1) rfl u61 u9 z8_5 rfl rfl e17) ?_
 rintro v18 w19 H
 refine zH (yM rfl) ?_
 refine zH (fa63_0 rfl) ?_
 refine xH rfl (wH H 2 rfl sz61 rfl (v := v18) rfl (own_one (H.item (i := 1) rfl)) rfl) ?_
 rintro w20 H
 obtain rfl := someI hF
 refine (zD (post0n rfl ?_))
 exact ⟨v18, rfl, H.pick [1, 2] (by decide)⟩
set_option maxHeartbeats 4000000 in
theorem F_ref0_Ink_Texts_w (p0 : Orangeboxref0Ink) (p1 : List Str) (b1 : Nat) (v2 : Value) (v5 : Value) (r : Orangeboxref0Ink) (hF : F_ref0_Ink_Texts p0 p1 = some r) (O S : List Nat) (w : World) (H : Hd O w w S [.own (Rp.int .u8) v2 5 p0.out, .blk b1 [v2] 63, .fz (.sl Rp.str v5 p1), .fz (.at 3 0 ((Fl.arr 20 (Fl.int .u64)).f zN))]) :
  Calls Tryz.prog 26 ([.pointer (some ⟨b1, 0, none⟩), v5] : List Value).toArray w fun e w' => ∃ u8, e = .returned (.tuple #[]) ∧ Hd O w w' S [.own (Rp.int .u8) u8 5 r.out, .blk b1 [u8] 63] := by
 unfold F_ref0_Ink_Texts at hF
 refine zY 21 Tryz.func26 rfl rfl rfl ?_
 refine zC fun K9 hK9 => ?_
 refine zB ?_
 refine zK (.pointer (some ⟨b1, 0, none⟩)) ?_
 refine zK v5 ?_
 obtain ⟨x10, e11, hF⟩ := zF hF
 obtain ⟨a12, c13, q14⟩ := SlF.len ((H.item (i := 2) rfl))
 refine zH (yN (xM u22 q14) (congrArg (Value.int .i64) e11)) ?_
 obtain ⟨x15, e16, hF⟩ := zG hF
 refine zZ rfl rfl (zT en47 rfl) (F_ref0_Ink_Int_w p0 x10 b1 v2 _ e16 _ _ _ (H.enter [0, 1] [3] (by decide) rfl)) ?_
 rintro _ w19 ⟨v17, rfl, G20⟩
 have H : Hd O _ w19 _ [.fz (.sl Rp.str v5 p1), .fz (.at 3 0 ((Fl.arr 20 (Fl.int .u64)).f zN)), .own (Rp.int .u8) v17 5 x15.out, .blk b1 [v17] 63] := H.back [0, 1] [3] rfl G20
 refine ⟨_, rfl, ?_⟩
 refine (zD (zA (hK9 _ _ ?_)))
 refine zC fun K21 hK21 => ?_
 refine zB ?_
 refine zI (.int .i64 0) ?_
 refine (zD (zA (hK21 _ _ ?_)))
 refine yG ?_
 unfold F_ref0_Ink_Texts_L1 at hF
 obtain ⟨B146, n147, eB148, hF⟩ := yS hF
 refine xE [4, 9, 10, 11, 12, 13, 14, 15, 16, 17, 18, 19, 20] (fun (g : Nat × Int × (List Int) × Value) => [(4, .int .i64 g.2.1)]) (fun g wl => Hd O w wl S [.fz (.sl Rp.str v5 p1), .fz (.at 3 0 ((Fl.arr 20 (Fl.int .u64)).f zN)), .blk b1 [g.2.2.2] 63, .own (Rp.int .u8) g.2.2.2 5 g.2.2.1] ∧ loopN B146 g.1 (g.2.1, g.2.2.1) = some r) (fun g => g.1) (n147, 0, x15.out, v17) (zJ rfl zL) ⟨H.pick [0, 1, 3, 2] (by decide), hF⟩ ?_
 clear H hF
 rintro ⟨n147, g142, g144, v145⟩ ρ w150 ⟨H, hF⟩
 obtain ⟨n151, rfl, hF⟩ := yX hF
 have hF := yY eB148 hF
 refine zC fun K161 hK161 => ?_
 refine zC fun K162 hK162 => ?_
 refine zB ?_
 refine zK (.int .i64 g142) ?_
 refine zK v5 ?_
 obtain ⟨x163, e164, hF⟩ := zF hF
 obtain ⟨a165, c166, q167⟩ := SlF.len ((H.item (i := 0) rfl))
 refine zH (yN (xM u22 q167) (congrArg (Value.int .i64) e164)) ?_
 obtain ⟨x168, e169, hF⟩ := zF hF
 refine zH (zM (xI (a := g142) (b := x163) rfl rfl) e169) ?_
 refine (zD (zA (hK162 _ _ ?_)))
 refine yA (b := x168) rfl (fun c170 => ?_) (fun c170 => ?_)
 ·have hF := zQ c170 hF
  refine (zX (zA (hK161 _ _ ?_)))
  refine zC fun K189 hK189 => ?_
  refine yG ?_
  refine zB ?_
  refine zK (.pointer (some ⟨b1, 0, none⟩)) ?_
  refine zK v5 ?_
  refine zK (.int .i64 g142) ?_
  obtain ⟨x190, e191, hF⟩ := zG hF
  obtain ⟨b192, o193, c194, cs195, q196, h199, h197, h198, h200⟩ := rd_at (H.item (i := 0) rfl) e191
  obtain rfl : cs195 = [.string (bs x190)] := h199
  have H := H.fz (.at b192 (o193 + g142.toNat * 1) _) ⟨h197, h198, h200⟩
  refine zH (wC u22 sz9 q196 rfl (yP e191).1 (yP e191).2.1 rfl rfl) ?_
  refine zH (zO one9 rfl (Cells.get (H.item (i := 4) rfl).2.2 (i := 0) rfl)) ?_
  obtain ⟨x202, e203, hF⟩ := zG hF
  refine zZ rfl rfl (zT en79 rfl) (F_ref0_Ink_Text_w (Orangeboxref0Ink.mk g144) x190 b1 v145 _ e203 _ _ _ (H.enter [3, 2] [1] (by decide) rfl)) ?_
  rintro _ w206 ⟨v204, rfl, G207⟩
  have H : Hd O _ w206 _ [.fz (.sl Rp.str v5 p1), .fz (.at 3 0 ((Fl.arr 20 (Fl.int .u64)).f zN)), .fz (.at b192 (o193 + g142.toNat * 1) [.string (bs x190)]), .own (Rp.int .u8) v204 5 x202.out, .blk b1 [v204] 63] := H.back [3, 2] [1] rfl G207
  refine ⟨_, rfl, ?_⟩
  refine (zD (yT (zA (hK189 _ _ ?_))))
  refine zB ?_
  refine zK (.int .i64 g142) ?_
  obtain ⟨x208, e209, hF⟩ := zF hF
  refine zH (xP (a := g142) (b := 1) rfl rfl e209) ?_
  refine zI (.int .i64 x208) ?_
  exact (zD (zA (meet ⟨(n151, x208, x202.out, v204), (zJ rfl zL), ⟨H.pick [0, 1, 4, 3] (by decide), hF⟩, Nat.lt_succ_self _⟩)))
 have hF := zS c170 hF
 obtain rfl := someI hF
 refine (xJ (yO (yO (xB (post0n rfl ?_)))))
 exact ⟨v145, rfl, H.pick [3, 2] (by decide)⟩
set_option maxHeartbeats 4000000 in
theorem F_ref0_Ink_Errno_w (p0 : Orangeboxref0Ink) (p1 : Int) (b1 : Nat) (v2 : Value) (r : Orangeboxref0Ink) (hF : F_ref0_Ink_Errno p0 p1 = some r) (O S : List Nat) (w : World) (H : Hd O w w S [.own (Rp.int .u8) v2 5 p0.out, .blk b1 [v2] 63, .fz (.at 3 0 ((Fl.arr 20 (Fl.int .u64)).f zN))]) :
  Calls Tryz.prog 57 ([.pointer (some ⟨b1, 0, none⟩), .int .i64 p1] : List Value).toArray w fun e w' => ∃ u6, e = .returned (.tuple #[]) ∧ Hd O w w' S [.own (Rp.int .u8) u6 5 r.out, .blk b1 [u6] 63] := by
 unfold F_ref0_Ink_Errno at hF
 refine zY 7 Tryz.func57 rfl rfl rfl ?_
 refine zB ?_
 refine zK (.pointer (some ⟨b1, 0, none⟩)) ?_
 refine zK (.int .i64 p1) ?_
 obtain ⟨x7, e8, hF⟩ := zG hF
 refine zZ rfl rfl (zT en47 rfl) (F_ref0_Ink_Int_w p0 p1 b1 v2 _ e8 _ _ _ (H.enter [0, 1] [2] (by decide) rfl)) ?_
 rintro _ w11 ⟨v9, rfl, G12⟩
 have H : Hd O _ w11 _ [.fz (.at 3 0 ((Fl.arr 20 (Fl.int .u64)).f zN)), .own (Rp.int .u8) v9 5 x7.out, .blk b1 [v9] 63] := H.back [0, 1] [2] rfl G12
 refine ⟨_, rfl, ?_⟩
 obtain rfl := someI hF
 refine (zD (post0n rfl ?_))
 exact ⟨v9, rfl, H.pick [1, 2] (by decide)⟩
set_option maxHeartbeats 4000000 in
theorem F_ref0_Ink_Told_w (p0 : Option Orangeboxref0Ink) (v1 : Option Addr) (r : Str) (hF : F_ref0_Ink_Told p0 = some r) (O S : List Nat) (w : World) (H : Hd O w w S [.fz (.pt rOrangeboxref0Ink v1 p0)]) :
  Calls Tryz.prog 28 ([.pointer v1] : List Value).toArray w fun e w' => e = .returned (.string (bs r)) ∧ Hd O w w' S [] := by
 unfold F_ref0_Ink_Told at hF
 refine zY 8 Tryz.func28 rfl rfl rfl ?_
 refine zC fun K3 hK3 => ?_
 refine zB ?_
 refine zI (.string (bs [])) ?_
 refine (zD (zA (hK3 _ _ ?_)))
 refine zC fun K4 hK4 => ?_
 refine zB ?_
 refine zK (.pointer v1) ?_
 obtain ⟨x5, e6, hF⟩ := zG hF
 obtain ⟨b7, o8, cs9, q10, h11, h12, h13, h14⟩ := ptf_some ((H.item (i := 0) rfl) : PtF _ _ _ _ _) e6
 obtain ⟨v15, rfl, h16⟩ := rOrangeboxref0Ink_open h13
 have H := H.fzs [.at b7 o8 _, .sl (Rp.int .u8) v15 x5.out] ⟨⟨h11, h12, h14⟩, h16, trivial⟩
 refine zH (yM (ad := ⟨b7, o8, none⟩) (congrArg Value.pointer q10)) ?_
 refine zH (fa63_0 rfl) ?_
 refine zH (zO one61 rfl (Cells.get (H.item (i := 1) rfl).2.2 (i := 0) rfl)) ?_
 obtain ⟨x19, e20, hF⟩ := zF hF
 refine zH (yN (Do_bytestr (xl := x5.out) u61 u5 u9 rfl (Sr.of_rd (H.item (i := 2) rfl))) (congrArg (fun s => Value.string (bs s)) e20)) ?_
 refine zI (.string (bs x19)) ?_
 refine (zD (zA (hK4 _ _ ?_)))
 obtain rfl := someI hF
 refine (yB (post1 (v1 := .string (bs x19)) rfl rfl ?_))
 exact ⟨rfl, H.pick [] (by decide)⟩
set_option maxHeartbeats 4000000 in
theorem F_law6_texts_w (p0 : List Str) (p1 : Int) (v1 : Value) (r : Str) (hF : F_law6_texts p0 p1 = some r) (O S : List Nat) (w : World) (H : Hd O w w S [.fz (.sl Rp.str v1 p0), .fz (.at 3 0 ((Fl.arr 20 (Fl.int .u64)).f zN))]) :
  Calls Tryz.prog 33 ([v1, .int .i64 p1] : List Value).toArray w fun e w' => e = .returned (.string (bs r)) ∧ Hd O w w' S [] := by
 unfold F_law6_texts at hF
 refine zY 16 Tryz.func33 rfl rfl rfl ?_
 refine zC fun K4 hK4 => ?_
 refine zB ?_
 refine zI (.string (bs [])) ?_
 refine (zD (zA (hK4 _ _ ?_)))
 refine zC fun K5 hK5 => ?_
 refine zB ?_
 refine zH (Do_build (cs := [.slice none 0 0]) bz63) ?_
 refine yZ rfl rfl (wF (cs := [.slice none 0 0]) rfl H) ?_
 rintro _ w8 ⟨b6, rfl, H⟩
 refine zI (.pointer (some ⟨b6, 0, none⟩)) ?_
 refine (zD (zA (hK5 _ _ ?_)))
 refine zC fun K9 hK9 => ?_
 refine zB ?_
 refine zK (.pointer (some ⟨b6, 0, none⟩)) ?_
 refine zK v1 ?_
 have H := own_nil H (Rp.int .u8) 5
 obtain ⟨x11, e12, hF⟩ := zG hF
 refine zZ rfl rfl (zT en26 rfl) (F_ref0_Ink_Texts_w (Orangeboxref0Ink.mk []) p0 b6 (.slice none 0 0) v1 _ e12 _ _ _ (H.enter [3, 2] [0, 1] (by decide) rfl)) ?_
 rintro _ w15 ⟨v13, rfl, G16⟩
 have H : Hd O _ w15 _ [.fz (.sl Rp.str v1 p0), .fz (.at 3 0 ((Fl.arr 20 (Fl.int .u64)).f zN)), .own (Rp.int .u8) v13 5 x11.out, .blk b6 [v13] 63] := H.back [3, 2] [0, 1] rfl G16
 refine ⟨_, rfl, ?_⟩
 refine (zD (zA (hK9 _ _ ?_)))
 refine zC fun K17 hK17 => ?_
 refine zB ?_
 refine zK (.pointer (some ⟨b6, 0, none⟩)) ?_
 refine zK (.int .i64 p1) ?_
 obtain ⟨x18, e19, hF⟩ := zG hF
 refine zZ rfl rfl (zT en57 rfl) (F_ref0_Ink_Errno_w x11 p1 b6 v13 _ e19 _ _ _ (H.enter [2, 3] [1] (by decide) rfl)) ?_
 rintro _ w22 ⟨v20, rfl, G23⟩
 have H : Hd O _ w22 _ [.fz (.sl Rp.str v1 p0), .fz (.at 3 0 ((Fl.arr 20 (Fl.int .u64)).f zN)), .own (Rp.int .u8) v20 5 x18.out, .blk b6 [v20] 63] := H.back [2, 3] [1] rfl G23
 refine ⟨_, rfl, ?_⟩
 refine (zD (zA (hK17 _ _ ?_)))
 refine zC fun K24 hK24 => ?_
 refine zB ?_
 refine zK (.pointer (some ⟨b6, 0, none⟩)) ?_
 have H25 := H
 have H := H.freezeB (i := 3) rfl
 have H := H.freeze (i := 2) rfl
 have H := H.fz (.pt rOrangeboxref0Ink (some ⟨b6, 0, none⟩) (some x18)) ⟨_, _, _, rfl, (H.item (i := 3) rfl).1, (H.item (i := 3) rfl).2.1, (rOrangeboxref0Ink_mk (x := x18) (H.item (i := 2) rfl)), (H.item (i := 3) rfl).2.2⟩
 obtain ⟨x27, e28, hF⟩ := zG hF
 refine zZ rfl rfl (zT en28 rfl) (F_ref0_Ink_Told_w (some x18) (some ⟨b6, 0, none⟩) _ e28 _ _ _ (H.enter [] [4] (by decide) rfl)) ?_
 rintro _ w29 ⟨rfl, G30⟩
 have H := H25.step (G30.only : Only [] _ _)
 refine ⟨_, rfl, ?_⟩
 refine zI (.string (bs x27)) ?_
 refine (zD (zA (hK24 _ _ ?_)))
 obtain rfl := someI hF
 refine (yB (post1 (v1 := .string (bs x27)) rfl rfl ?_))
 exact ⟨rfl, H.pick [] (by decide)⟩
set_option maxHeartbeats 4000000 in
theorem F_ref6_PutText_w (p0 : List Str) (p1 : Str) (v1 : Value) (r : (List Str)) (hF : F_ref6_PutText p0 p1 = some r) (O S : List Nat) (w : World) (H : Hd O w w S [.fz (.sl Rp.str v1 p0)]) :
  Calls Tryz.prog 200 ([v1, .string (bs p1)] : List Value).toArray w fun e w' => ∃ u3, e = .returned (u3) ∧ Hd O w w' S [.fz (.sl Rp.str u3 r)] := by
 unfold F_ref6_PutText at hF
 refine zY 46 Tryz.func200 rfl rfl rfl ?_
 refine zC fun K4 hK4 => ?_
 refine zB ?_
 refine zI (.slice none 0 0) ?_
 refine (zD (zA (hK4 _ _ ?_)))
 refine zC fun K5 hK5 => ?_
 refine zB ?_
 refine zI (.int .i64 0) ?_
 refine (zD (zA (hK5 _ _ ?_)))
 obtain ⟨g123, hF, hK125⟩ := zG hF
 refine yL [5, 7, 8, 9, 10, 11, 12, 13, 14, 15, 16, 17, 18, 19, 20] (fun (g : Unit) => [(5, .int .i64 g123)]) (fun g wl => Hd O w wl S [.fz (.sl Rp.str v1 p0)]) ?_ ?_
 ·skip
  refine yG ?_
  unfold F_ref6_PutText_L1 at hF
  obtain ⟨B238, n239, eB240, hF⟩ := yS hF
  refine xE [5, 7, 8, 9, 10, 11, 12, 13, 14, 15, 16, 17, 18, 19, 20] (fun (g : Nat × Int) => [(5, .int .i64 g.2)]) (fun g wl => Hd O w wl S [.fz (.sl Rp.str v1 p0)] ∧ loopN B238 g.1 g.2 = some g123) (fun g => g.1) (n239, 0) (zJ rfl zL) ⟨H.pick [0] (by decide), hF⟩ ?_
  clear H hF
  rintro ⟨n239, g237⟩ ρ w242 ⟨H, hF⟩
  obtain ⟨n243, rfl, hF⟩ := yX hF
  have hF := yY eB240 hF
  refine zC fun K270 hK270 => ?_
  obtain ⟨g293, hF, hK295⟩ := zG hF
  refine yL [7, 8, 9, 10, 11, 12, 13, 14, 15, 16, 17, 18] (fun (g : Unit) => [(18, .bool g293)]) (fun g wl => Hd O w wl S [.fz (.sl Rp.str v1 p0)]) ?_ ?_
  ·skip
   refine zB ?_
   refine zK (.int .i64 g237) ?_
   refine zK v1 ?_
   obtain ⟨x296, e297, hF⟩ := zF hF
   obtain ⟨a298, c299, q300⟩ := SlF.len ((H.item (i := 0) rfl))
   refine zH (yN (xM u22 q300) (congrArg (Value.int .i64) e297)) ?_
   obtain ⟨x301, e302, hF⟩ := zF hF
   refine zH (zM (xI (a := g237) (b := x296) rfl rfl) e302) ?_
   refine yK (b := x301) rfl rfl rfl (fun c303 => ?_) (fun c303 => ?_)
   ·have hF := zQ c303 hF
    refine zK v1 ?_
    refine zK (.int .i64 g237) ?_
    obtain ⟨x304, e305, hF⟩ := zG hF
    obtain ⟨b306, o307, c308, cs309, q310, h313, h311, h312, h314⟩ := rd_at (H.item (i := 0) rfl) e305
    obtain rfl : cs309 = [.string (bs x304)] := h313
    have H := H.fz (.at b306 (o307 + g237.toNat * 1) _) ⟨h311, h312, h314⟩
    refine zH (wC u22 sz9 q310 rfl (yP e305).1 (yP e305).2.1 rfl rfl) ?_
    refine zH (zO one9 rfl (Cells.get (H.item (i := 1) rfl).2.2 (i := 0) rfl)) ?_
    refine zK (.string (bs p1)) ?_
    obtain ⟨x316, e317, hF⟩ := zF hF
    refine zH (zM (Do_lsss (s1 := x304) (s2 := p1) rfl rfl) e317) ?_
    refine zH (yI (v := .bool x316) rfl rfl) ?_
    obtain rfl := someI hF
    exact (zD (zA (meet ⟨(), (zJ rfl zL), H.pick [0] (by decide)⟩)))
   have hF := zS c303 hF
   refine yC ?_
   refine yC ?_
   refine yC ?_
   refine yC ?_
   refine yC ?_
   refine yC ?_
   refine zH (yF (v := .bool false) rfl rfl) ?_
   obtain rfl := someI hF
   exact (zD (zA (meet ⟨(), (zJ rfl zL), H.pick [0] (by decide)⟩)))
  rintro _ ρ w294 H
  have hF := hK295
  refine yA (b := g293) rfl (fun c318 => ?_) (fun c318 => ?_)
  ·have hF := zQ c318 hF
   refine (zX (zA (hK270 _ _ ?_)))
   refine yG ?_
   refine zB ?_
   refine zK (.int .i64 g237) ?_
   obtain ⟨x319, e320, hF⟩ := zF hF
   refine zH (xP (a := g237) (b := 1) rfl rfl e320) ?_
   refine zI (.int .i64 x319) ?_
   exact (zD (yT (zA (meet ⟨(n243, x319), (zJ rfl zL), ⟨H.pick [0] (by decide), hF⟩, Nat.lt_succ_self _⟩))))
  have hF := zS c318 hF
  obtain rfl := someI hF
  exact (xJ (yO (yO (xB (zA (meet ⟨(), (zJ rfl zL), H.pick [0] (by decide)⟩))))))
 rintro _ ρ w124 H
 have hF := hK125
 refine zC fun K348 hK348 => ?_
 obtain ⟨g371, hF, hK373⟩ := zG hF
 refine yL [21, 22, 23, 24, 25, 26, 27, 28, 29, 30, 31, 32] (fun (g : Unit) => [(32, .bool g371)]) (fun g wl => Hd O w wl S [.fz (.sl Rp.str v1 p0)]) ?_ ?_
 ·skip
  refine zB ?_
  refine zK (.int .i64 g123) ?_
  refine zK v1 ?_
  obtain ⟨x374, e375, hF⟩ := zF hF
  obtain ⟨a376, c377, q378⟩ := SlF.len ((H.item (i := 0) rfl))
  refine zH (yN (xM u22 q378) (congrArg (Value.int .i64) e375)) ?_
  obtain ⟨x379, e380, hF⟩ := zF hF
  refine zH (zM (xI (a := g123) (b := x374) rfl rfl) e380) ?_
  refine yK (b := x379) rfl rfl rfl (fun c381 => ?_) (fun c381 => ?_)
  ·have hF := zQ c381 hF
   refine zK v1 ?_
   refine zK (.int .i64 g123) ?_
   obtain ⟨x382, e383, hF⟩ := zG hF
   obtain ⟨b384, o385, c386, cs387, q388, h391, h389, h390, h392⟩ := rd_at (H.item (i := 0) rfl) e383
   obtain rfl : cs387 = [.string (bs x382)] := h391
   have H := H.fz (.at b384 (o385 + g123.toNat * 1) _) ⟨h389, h390, h392⟩
   refine zH (wC u22 sz9 q388 rfl (yP e383).1 (yP e383).2.1 rfl rfl) ?_
   refine zH (zO one9 rfl (Cells.get (H.item (i := 1) rfl).2.2 (i := 0) rfl)) ?_
   refine zK (.string (bs p1)) ?_
   obtain ⟨x394, e395, hF⟩ := zF hF
   refine zH (zM (xW (s1 := x382) (s2 := p1) rfl rfl) e395) ?_
   refine zH (yI (v := .bool x394) rfl rfl) ?_
   obtain rfl := someI hF
   exact (zD (zA (meet ⟨(), (zJ rfl zL), H.pick [0] (by decide)⟩)))
  have hF := zS c381 hF
  refine yC ?_
  refine yC ?_
  refine yC ?_
  refine yC ?_
  refine yC ?_
  refine yC ?_
  refine zH (yF (v := .bool false) rfl rfl) ?_
  obtain rfl := someI hF
  exact (zD (zA (meet ⟨(), (zJ rfl zL), H.pick [0] (by decide)⟩)))
 rintro _ ρ w372 H
 have hF := hK373
 refine yA (b := g371) rfl (fun c396 => ?_) (fun c396 => ?_)
 ·have hF := zQ c396 hF
  refine zC fun K397 hK397 => ?_
  refine zB ?_
  refine zK v1 ?_
  refine zI v1 ?_
  refine (zD (zA (hK397 _ _ ?_)))
  obtain rfl := someI hF
  refine (yB (zW (post1 (v1 := v1) rfl rfl ?_)))
  exact ⟨v1, rfl, H.pick [0] (by decide)⟩
 have hF := zS c396 hF
 refine (zX (zA (hK348 _ _ ?_)))
 refine zC fun K398 hK398 => ?_
 refine zB ?_
 refine zK v1 ?_
 refine zK (.int .i64 g123) ?_
 obtain ⟨x399, e400, hF⟩ := zG hF
 refine RL_exP rfl rfl (Lx_slice_h u22 sz9 (H.item (i := 0) rfl) rfl rfl e400) ?_
 rintro v401 h402
 have H := H.fz (.sl Rp.str v401 x399) h402
 have H := own_nil H Rp.str 9
 obtain ⟨x405, e406, hF⟩ := zG hF
 refine yZ rfl rfl (Lx_app H (i := 2) rfl u22 el9 rfl rfl (Sr.of_rd (H.item (i := 1) rfl)) e406) ?_
 rintro v407 w408 H
 refine zI v407 ?_
 refine (zD (zA (hK398 _ _ ?_)))
 refine zC fun K409 hK409 => ?_
 have H410 := H
 have H := H.rebase
 have H411 := H
 refine WP_mix H [0, 1, 4, 5, 6, 2, 3, 7, 8] [.pure, .pure, .new, .eff, .pure, .pure, .pure, .eff, .pure] mixed (by kernel_rfl) (by kernel_rfl) (by kernel_rfl) (by decide) ?_
 refine Mx.yD rfl rfl rfl (fun w' hw' => xK (v := v407) rfl) ?_
 refine Mx.yD rfl rfl rfl (fun w' hw' => xK (v := .string (bs p1)) rfl) ?_
 refine Mx.yD rfl rfl rfl (fun w' hw' => xK (v := v1) rfl) ?_
 refine Mx.yD rfl rfl rfl (fun w' hw' => xK (v := .int .i64 g123) rfl) ?_
 obtain ⟨x412, e413, hF⟩ := zG hF
 refine Mx.XL_exP rfl rfl rfl (Lx_slice_l u22 sz9 (H.item (i := 0) rfl) rfl rfl e413) ?_
 rintro v414 h415
 have H := H.fz (.sl Rp.str v414 x412) h415
 obtain ⟨x417, e418, hF⟩ := zF hF
 subst e418
 refine Mx.XL_exN oS rfl rfl rfl (fun w' hw' => Ls_of (Lx_bs (r := Rp.str) (xl := [p1]) (cs := [.string (bs p1)]) u22 el9 (by decide) (by decide) rfl (xU (vs := [.string (bs p1)]) (by decide) rfl rfl ⟨rfl, trivial⟩ rfl) (H.sees hw') ⟨[.string (bs p1)], [], rfl, rfl, rfl⟩) (Ys_bs (cs := [.string (bs p1)]) u22 el9 (by decide) (by decide) (xU (vs := [.string (bs p1)]) (by decide) rfl rfl ⟨rfl, trivial⟩ rfl))) ?_
 rintro w' v420 w421 hw' H
 obtain ⟨x422, e423, hF⟩ := zG hF
 refine Mx.XL_ex oS rfl rfl rfl (fun w' hw' => Lx_app (H.sees hw') (i := 2) rfl u22 el9 rfl rfl (Sr.of_own ((H.sees hw').item (i := 4) rfl)) e423) ?_
 rintro w' v424 w425 hw' H
 refine ⟨H.only, ?_⟩
 obtain ⟨x426, e427, hF⟩ := zG hF
 refine Mx.XL_ex oS rfl rfl rfl (fun w' hw' => Lx_app (H.sees hw') (i := 2) rfl u22 el9 rfl rfl (Sr.of_rd ((H.sees hw').item (i := 3) rfl)) e427) ?_
 rintro w' v428 w429 hw' H
 refine ⟨H.only, ?_⟩
 refine Mx.yD rfl rfl rfl (fun w' hw' => Do_assign (v := v428) rfl) ?_
 refine Mx.XL_nil fun w430 hS => ?_
 have H := H.sees hS
 have H := H410.rejoin H
 refine (zA (hK409 _ _ ?_))
 have H := H.freeze (i := 2) rfl
 obtain rfl := someI hF
 refine (yB (post1 (v1 := v428) rfl rfl ?_))
 exact ⟨v428, rfl, H.pick [2] (by decide)⟩
abbrev S_ref6_named (f : (List Str) → Cond → Option (List Str)) : Prop := ∀ (p0 : List Str) (p1 : Cond) (v1 : Value) (v3 : Value) (r : (List Str)) (_ : f p0 p1 = some r) (O S : List Nat) (w : World) (_ : Hd O w w S [.fz (.sl Rp.str v1 p0), .fz (.sl rCond v3 p1.Kids)]),
  Calls Tryz.prog 156 ([v1, .agg [.int .i64 p1.Kind, .string (bs p1.Name), .string (bs p1.Other), .int .i64 p1.Op, .int .i64 p1.N, .int .i64 p1.Frames, v3].toArray] : List Value).toArray w fun e w' => ∃ u5, e = .returned (u5) ∧ Hd O w w' S [.fz (.sl Rp.str u5 r)]
set_option maxHeartbeats 4000000 in
theorem F_ref6_named_B_w (rfM : (List Str) → Cond → Option (List Str)) (rhM : S_ref6_named rfM) (p0 : List Str) (p1 : Cond) (v1 : Value) (v3 : Value) (r : (List Str)) (hF : F_ref6_named_B rfM p0 p1 = some r) (O S : List Nat) (w : World) (H : Hd O w w S [.fz (.sl Rp.str v1 p0), .fz (.sl rCond v3 p1.Kids)]) :
  Calls Tryz.prog 156 ([v1, .agg [.int .i64 p1.Kind, .string (bs p1.Name), .string (bs p1.Other), .int .i64 p1.Op, .int .i64 p1.N, .int .i64 p1.Frames, v3].toArray] : List Value).toArray w fun e w' => ∃ u5, e = .returned (u5) ∧ Hd O w w' S [.fz (.sl Rp.str u5 r)] := by
 unfold F_ref6_named_B at hF
 refine zY 45 Tryz.func156 rfl rfl rfl ?_
 refine zC fun K6 hK6 => ?_
 refine zB ?_
 refine yZ rfl rfl (wF (cs := [.int .i64 p1.Kind, .string (bs p1.Name), .string (bs p1.Other), .int .i64 p1.Op, .int .i64 p1.N, .int .i64 p1.Frames, v3]) rfl H) ?_
 rintro _ w9 ⟨b7, rfl, H⟩
 refine zI (.slice none 0 0) ?_
 refine (zD (zA (hK6 _ _ ?_)))
 obtain ⟨g32, hF, hK35⟩ := zG hF
 refine yL [0, 6, 7, 8, 9, 10, 11, 12, 13, 14, 15, 16, 17, 18, 19, 20, 21, 22] (fun (g : Value) => [(0, g)]) (fun g wl => Hd O w wl S [.fz (.sl Rp.str g g32), .fz (.sl rCond v3 p1.Kids), .blk b7 [.int .i64 p1.Kind, .string (bs p1.Name), .string (bs p1.Other), .int .i64 p1.Op, .int .i64 p1.N, .int .i64 p1.Frames, v3] 70]) ?_ ?_
 ·skip
  obtain ⟨g47, hF, hK49⟩ := zG hF
  refine yL [6, 7, 8, 9, 10, 11, 12, 13, 14, 15, 16, 17, 18] (fun (g : Unit) => [(18, .bool g47)]) (fun g wl => Hd O w wl S [.fz (.sl Rp.str v1 p0), .fz (.sl rCond v3 p1.Kids), .blk b7 [.int .i64 p1.Kind, .string (bs p1.Name), .string (bs p1.Other), .int .i64 p1.Op, .int .i64 p1.N, .int .i64 p1.Frames, v3] 70]) ?_ ?_
  ·skip
   refine zB ?_
   refine zH (fa70_0 rfl) ?_
   refine zH (zO one3 rfl (Cells.get (Blk.cells (H.item (i := 2) rfl)) (i := 0) rfl)) ?_
   obtain ⟨x50, e51, hF⟩ := zF hF
   refine zH (zM (yR (a := p1.Kind) (b := 3) rfl rfl) e51) ?_
   obtain ⟨j52, hF, hK53⟩ := zG hF
   refine RL_cutS 5 [9, 10, 11, 12, 13] [(13, .bool j52)] (fun wl => Hd O w wl S [.fz (.sl Rp.str v1 p0), .fz (.sl rCond v3 p1.Kids), .blk b7 [.int .i64 p1.Kind, .string (bs p1.Name), .string (bs p1.Other), .int .i64 p1.Op, .int .i64 p1.N, .int .i64 p1.Frames, v3] 70]) ?_ ?_
   ·skip
    refine yK (b := x50) rfl rfl rfl (fun c55 => ?_) (fun c55 => ?_)
    ·have hF := zQ c55 hF
     refine yC ?_
     refine yC ?_
     refine yC ?_
     refine zH (yI (v := .bool true) rfl rfl) ?_
     obtain rfl := someI hF
     exact zD (zA (meet ⟨(zJ rfl zL), H.pick [0, 1, 2] (by decide)⟩))
    have hF := zS c55 hF
    refine zH (fa70_0 rfl) ?_
    refine zH (zO one3 rfl (Cells.get (Blk.cells (H.item (i := 2) rfl)) (i := 0) rfl)) ?_
    obtain ⟨x56, e57, hF⟩ := zF hF
    refine zH (zM (yR (a := p1.Kind) (b := 4) rfl rfl) e57) ?_
    refine zH (yF (v := .bool x56) rfl rfl) ?_
    obtain rfl := someI hF
    exact zD (zA (meet ⟨(zJ rfl zL), H.pick [0, 1, 2] (by decide)⟩))
   rintro ρ w54 H
   have hF := hK53
   refine yK (b := j52) rfl rfl rfl (fun c58 => ?_) (fun c58 => ?_)
   ·have hF := zQ c58 hF
    refine yC ?_
    refine yC ?_
    refine yC ?_
    refine zH (yI (v := .bool true) rfl rfl) ?_
    obtain rfl := someI hF
    exact (zD (zA (meet ⟨(), (zJ rfl zL), H.pick [0, 1, 2] (by decide)⟩)))
   have hF := zS c58 hF
   refine zH (fa70_0 rfl) ?_
   refine zH (zO one3 rfl (Cells.get (Blk.cells (H.item (i := 2) rfl)) (i := 0) rfl)) ?_
   obtain ⟨x59, e60, hF⟩ := zF hF
   refine zH (zM (yR (a := p1.Kind) (b := 5) rfl rfl) e60) ?_
   refine zH (yF (v := .bool x59) rfl rfl) ?_
   obtain rfl := someI hF
   exact (zD (zA (meet ⟨(), (zJ rfl zL), H.pick [0, 1, 2] (by decide)⟩)))
  rintro _ ρ w48 H
  have hF := hK49
  refine yA (b := g47) rfl (fun c61 => ?_) (fun c61 => ?_)
  ·have hF := zQ c61 hF
   refine zB ?_
   refine zK v1 ?_
   refine zH (fa70_1 rfl) ?_
   refine zH (zO one9 rfl (Cells.get (Blk.cells (H.item (i := 2) rfl)) (i := 1) rfl)) ?_
   obtain ⟨x62, e63, hF⟩ := zG hF
   refine zZ rfl rfl (zT en200 rfl) (F_ref6_PutText_w p0 p1.Name v1 _ e63 _ _ _ (H.enter [] [0] (by decide) rfl)) ?_
   rintro _ w66 ⟨v64, rfl, G67⟩
   have H := H.back1 [0] rfl G67
   refine ⟨_, rfl, ?_⟩
   refine zI v64 ?_
   obtain rfl := someI hF
   exact (zD (zA (meet ⟨v64, (zJ rfl zL), H.pick [3, 1, 2] (by decide)⟩)))
  have hF := zS c61 hF
  obtain rfl := someI hF
  exact (zX (zA (meet ⟨v1, (zJ rfl zL), H.pick [0, 1, 2] (by decide)⟩)))
 rintro v33 ρ w34 H
 have hF := hK35
 obtain ⟨g79, hF, hK82⟩ := zG hF
 refine yL [0, 23, 24, 25, 26, 27, 28, 29] (fun (g : Value) => [(0, g)]) (fun g wl => Hd O w wl S [.fz (.sl Rp.str g g79), .fz (.sl rCond v3 p1.Kids), .blk b7 [.int .i64 p1.Kind, .string (bs p1.Name), .string (bs p1.Other), .int .i64 p1.Op, .int .i64 p1.N, .int .i64 p1.Frames, v3] 70]) ?_ ?_
 ·skip
  refine zC fun K83 hK83 => ?_
  refine zB ?_
  refine zH (fa70_0 rfl) ?_
  refine zH (zO one3 rfl (Cells.get (Blk.cells (H.item (i := 2) rfl)) (i := 0) rfl)) ?_
  obtain ⟨x84, e85, hF⟩ := zF hF
  refine zH (zM (yR (a := p1.Kind) (b := 4) rfl rfl) e85) ?_
  refine (zD (zA (hK83 _ _ ?_)))
  refine yA (b := x84) rfl (fun c86 => ?_) (fun c86 => ?_)
  ·have hF := zQ c86 hF
   refine zB ?_
   refine zK v33 ?_
   refine zH (fa70_2 rfl) ?_
   refine zH (zO one9 rfl (Cells.get (Blk.cells (H.item (i := 2) rfl)) (i := 2) rfl)) ?_
   obtain ⟨x87, e88, hF⟩ := zG hF
   refine zZ rfl rfl (zT en200 rfl) (F_ref6_PutText_w g32 p1.Other v33 _ e88 _ _ _ (H.enter [] [0] (by decide) rfl)) ?_
   rintro _ w91 ⟨v89, rfl, G92⟩
   have H := H.back1 [0] rfl G92
   refine ⟨_, rfl, ?_⟩
   refine zI v89 ?_
   obtain rfl := someI hF
   exact (zD (zA (meet ⟨v89, (zJ rfl zL), H.pick [3, 1, 2] (by decide)⟩)))
  have hF := zS c86 hF
  obtain rfl := someI hF
  exact (zX (zA (meet ⟨v33, (zJ rfl zL), H.pick [0, 1, 2] (by decide)⟩)))
 rintro v80 ρ w81 H
 have hF := hK82
 obtain ⟨g233, hF, hK236⟩ := zG hF
 refine yL [0, 5, 30, 31, 32, 33, 34, 35, 36, 37, 38, 39, 40, 41, 42, 43] (fun (g : Value) => [(0, g)]) (fun g wl => Hd O w wl S [.fz (.sl Rp.str g g233)]) ?_ ?_
 ·skip
  refine zC fun K237 hK237 => ?_
  refine zB ?_
  refine zI (.int .i64 0) ?_
  refine (zD (zA (hK237 _ _ ?_)))
  refine yG ?_
  unfold F_ref6_named_B_L1 at hF
  obtain ⟨B374, n375, eB376, hF⟩ := yS hF
  refine xE [0, 5, 30, 31, 32, 33, 34, 35, 36, 37, 38, 39, 40, 41, 42, 43] (fun (g : Nat × (List Str) × Int × Value) => [(0, g.2.2.2), (5, .int .i64 g.2.2.1)]) (fun g wl => Hd O w wl S [.fz (.sl Rp.str g.2.2.2 g.2.1), .fz (.sl rCond v3 p1.Kids), .blk b7 [.int .i64 p1.Kind, .string (bs p1.Name), .string (bs p1.Other), .int .i64 p1.Op, .int .i64 p1.N, .int .i64 p1.Frames, v3] 70] ∧ loopN B374 g.1 (g.2.1, g.2.2.1) = some g233) (fun g => g.1) (n375, g79, 0, v80) (zJ rfl (zJ rfl zL)) ⟨H.pick [0, 1, 2] (by decide), hF⟩ ?_
  clear H hF
  rintro ⟨n375, g371, g373, v372⟩ ρ w378 ⟨H, hF⟩
  obtain ⟨n379, rfl, hF⟩ := yX hF
  have hF := yY eB376 hF
  refine zC fun K389 hK389 => ?_
  refine zC fun K390 hK390 => ?_
  refine zB ?_
  refine zK (.int .i64 g373) ?_
  refine zH (fa70_6 rfl) ?_
  refine zH (zO one68 rfl (Cells.get (Blk.cells (H.item (i := 2) rfl)) (i := 6) rfl)) ?_
  obtain ⟨x391, e392, hF⟩ := zF hF
  obtain ⟨a393, c394, q395⟩ := SlF.len ((H.item (i := 1) rfl))
  refine zH (yN (xM u68 q395) (congrArg (Value.int .i64) e392)) ?_
  obtain ⟨x396, e397, hF⟩ := zF hF
  refine zH (zM (xI (a := g373) (b := x391) rfl rfl) e397) ?_
  refine (zD (zA (hK390 _ _ ?_)))
  refine yA (b := x396) rfl (fun c398 => ?_) (fun c398 => ?_)
  ·have hF := zQ c398 hF
   refine (zX (zA (hK389 _ _ ?_)))
   refine zC fun K420 hK420 => ?_
   refine yG ?_
   refine zB ?_
   refine zK v372 ?_
   refine zH (fa70_6 rfl) ?_
   refine zH (zO one68 rfl (Cells.get (Blk.cells (H.item (i := 2) rfl)) (i := 6) rfl)) ?_
   refine zK (.int .i64 g373) ?_
   obtain ⟨x421, e422, hF⟩ := zG hF
   obtain ⟨b423, o424, c425, cs426, q427, h430, h428, h429, h431⟩ := rd_at (H.item (i := 1) rfl) e422
   obtain ⟨v432, rfl, h433⟩ := wI h430
   have H := H.fzs [.at b423 (o424 + g373.toNat * 7) _, .sl rCond v432 x421.Kids] ⟨⟨h428, h429, h431⟩, h433, trivial⟩
   refine zH (wC u68 sz70 q427 rfl (yP e422).1 (yP e422).2.1 rfl rfl) ?_
   refine zH (yN (yJ (cs := [.int .i64 x421.Kind, .string (bs x421.Name), .string (bs x421.Other), .int .i64 x421.Op, .int .i64 x421.N, .int .i64 x421.Frames, v432]) agg70 rfl sz70 rfl (H.item (i := 3) rfl).2.2) rfl) ?_
   obtain ⟨x436, e437, hF⟩ := zG hF
   refine zZ rfl rfl (zT en156 rfl) (rhM g371 x421 v372 v432 _ e437 _ _ _ (H.enter [] [0, 4] (by decide) rfl)) ?_
   rintro _ w440 ⟨v438, rfl, G441⟩
   have H := H.back1 [0, 4] rfl G441
   refine ⟨_, rfl, ?_⟩
   refine zI v438 ?_
   refine (zD (yT (zA (hK420 _ _ ?_))))
   refine zB ?_
   refine zK (.int .i64 g373) ?_
   obtain ⟨x442, e443, hF⟩ := zF hF
   refine zH (xP (a := g373) (b := 1) rfl rfl e443) ?_
   refine zI (.int .i64 x442) ?_
   exact (zD (zA (meet ⟨(n379, x436, x442, v438), (zJ rfl (zJ rfl zL)), ⟨H.pick [5, 1, 2] (by decide), hF⟩, Nat.lt_succ_self _⟩)))
  have hF := zS c398 hF
  obtain rfl := someI hF
  exact (xJ (yO (yO (xB (zA (meet ⟨v372, (zJ rfl zL), H.pick [0] (by decide)⟩))))))
 rintro v234 ρ w235 H
 have hF := hK236
 refine zC fun K444 hK444 => ?_
 refine zB ?_
 refine zK v234 ?_
 refine zI v234 ?_
 refine (zD (zA (hK444 _ _ ?_)))
 obtain rfl := someI hF
 refine (yB (post1 (v1 := v234) rfl rfl ?_))
 exact ⟨v234, rfl, H.pick [0] (by decide)⟩
theorem F_ref6_named_s : S_ref6_named (F_ref6_named) := by
 have h : ∀ n, S_ref6_named (F_ref6_named_R n) := by
  intro n
  induction n with
  | zero => intro p0 p1 v1 v3 r hF; cases hF
  | succ n ih => intro p0 p1 v1 v3 r hF; exact F_ref6_named_B_w (F_ref6_named_R n) ih p0 p1 v1 v3 r hF
 exact h FU
set_option maxHeartbeats 4000000 in
theorem F_ref6_TracksOf_w (p0 : Rules) (v1 : Value) (v2 : Value) (v3 : Value) (r : (List Str)) (hF : F_ref6_TracksOf p0 = some r) (O S : List Nat) (w : World) (H : Hd O w w S [.fz (.sl Rp.str v1 p0.Phases), .fz (.sl rMoveT v2 p0.Moves), .fz (.sl rRule v3 p0.Rules)]) :
  Calls Tryz.prog 96 ([.agg [v1, v2, v3].toArray] : List Value).toArray w fun e w' => ∃ u7, e = .returned (u7) ∧ Hd O w w' S [.fz (.sl Rp.str u7 r)] := by
 unfold F_ref6_TracksOf at hF
 refine zY 37 Tryz.func96 rfl rfl rfl ?_
 refine zC fun K8 hK8 => ?_
 refine zB ?_
 refine yZ rfl rfl (wF (cs := [v1, v2, v3]) rfl H) ?_
 rintro _ w11 ⟨b9, rfl, H⟩
 refine zI (.slice none 0 0) ?_
 refine (zD (zA (hK8 _ _ ?_)))
 refine zC fun K12 hK12 => ?_
 refine zB ?_
 refine zI (.slice none 0 0) ?_
 refine (zD (zA (hK12 _ _ ?_)))
 obtain ⟨g156, hF, hK159⟩ := zG hF
 refine yL [3, 4, 6, 7, 8, 9, 10, 11, 12, 13, 14, 15, 16, 17, 18, 19, 20] (fun (g : Value) => [(3, g)]) (fun g wl => Hd O w wl S [.fz (.sl Rp.str g g156), .fz (.sl Rp.str v1 p0.Phases), .fz (.sl rMoveT v2 p0.Moves), .fz (.sl rRule v3 p0.Rules), .blk b9 [v1, v2, v3] 26]) ?_ ?_
 ·skip
  refine zC fun K160 hK160 => ?_
  refine zB ?_
  refine zI (.int .i64 0) ?_
  refine (zD (zA (hK160 _ _ ?_)))
  refine yG ?_
  have H := H.fz (.sl Rp.str (.slice none 0 0) []) SlF.nil
  unfold F_ref6_TracksOf_L1 at hF
  obtain ⟨B300, n301, eB302, hF⟩ := yS hF
  refine xE [3, 4, 6, 7, 8, 9, 10, 11, 12, 13, 14, 15, 16, 17, 18, 19, 20] (fun (g : Nat × (List Str) × Int × Value) => [(3, g.2.2.2), (4, .int .i64 g.2.2.1)]) (fun g wl => Hd O w wl S [.fz (.sl Rp.str g.2.2.2 g.2.1), .fz (.sl Rp.str v1 p0.Phases), .fz (.sl rMoveT v2 p0.Moves), .fz (.sl rRule v3 p0.Rules), .blk b9 [v1, v2, v3] 26] ∧ loopN B300 g.1 (g.2.1, g.2.2.1) = some g156) (fun g => g.1) (n301, [], 0, .slice none 0 0) (zJ rfl (zJ rfl zL)) ⟨H.pick [4, 0, 1, 2, 3] (by decide), hF⟩ ?_
  clear H hF
  rintro ⟨n301, g296, g298, v297⟩ ρ w304 ⟨H, hF⟩
  obtain ⟨n305, rfl, hF⟩ := yX hF
  have hF := yY eB302 hF
  refine zC fun K315 hK315 => ?_
  refine zC fun K316 hK316 => ?_
  refine zB ?_
  refine zK (.int .i64 g298) ?_
  refine zH (fa26_1 rfl) ?_
  refine zH (zO one23 rfl (Cells.get (Blk.cells (H.item (i := 4) rfl)) (i := 1) rfl)) ?_
  obtain ⟨x317, e318, hF⟩ := zF hF
  obtain ⟨a319, c320, q321⟩ := SlF.len ((H.item (i := 2) rfl))
  refine zH (yN (xM u23 q321) (congrArg (Value.int .i64) e318)) ?_
  obtain ⟨x322, e323, hF⟩ := zF hF
  refine zH (zM (xI (a := g298) (b := x317) rfl rfl) e323) ?_
  refine (zD (zA (hK316 _ _ ?_)))
  refine yA (b := x322) rfl (fun c324 => ?_) (fun c324 => ?_)
  ·have hF := zQ c324 hF
   refine (zX (zA (hK315 _ _ ?_)))
   refine zC fun K346 hK346 => ?_
   refine yG ?_
   refine zB ?_
   refine zK v297 ?_
   refine zH (fa26_1 rfl) ?_
   refine zH (zO one23 rfl (Cells.get (Blk.cells (H.item (i := 4) rfl)) (i := 1) rfl)) ?_
   refine zK (.int .i64 g298) ?_
   obtain ⟨x347, e348, hF⟩ := zG hF
   obtain ⟨b349, o350, c351, cs352, q353, h356, h354, h355, h357⟩ := rd_at (H.item (i := 2) rfl) e348
   obtain ⟨v358, rfl, h359⟩ := rMoveT_open h356
   have H := H.fzs [.at b349 (o350 + g298.toNat * 9) _, .sl rCond v358 x347.When.Kids] ⟨⟨h354, h355, h357⟩, h359, trivial⟩
   refine zH (wC u23 sz122 q353 rfl (yP e348).1 (yP e348).2.1 rfl rfl) ?_
   refine zH (fa122_2 rfl) ?_
   refine zH (yN (yJ (cs := [.int .i64 x347.When.Kind, .string (bs x347.When.Name), .string (bs x347.When.Other), .int .i64 x347.When.Op, .int .i64 x347.When.N, .int .i64 x347.When.Frames, v358]) agg70 rfl sz70 rfl (Cells.drop (H.item (i := 5) rfl).2.2 2 7)) rfl) ?_
   obtain ⟨x362, e363, hF⟩ := zG hF
   refine zZ rfl rfl (zT en156 rfl) (F_ref6_named_s g296 x347.When v297 v358 _ e363 _ _ _ (H.enter [] [0, 6] (by decide) rfl)) ?_
   rintro _ w366 ⟨v364, rfl, G367⟩
   have H := H.back1 [0, 6] rfl G367
   refine ⟨_, rfl, ?_⟩
   refine zI v364 ?_
   refine (zD (yT (zA (hK346 _ _ ?_))))
   refine zB ?_
   refine zK (.int .i64 g298) ?_
   obtain ⟨x368, e369, hF⟩ := zF hF
   refine zH (xP (a := g298) (b := 1) rfl rfl e369) ?_
   refine zI (.int .i64 x368) ?_
   exact (zD (zA (meet ⟨(n305, x362, x368, v364), (zJ rfl (zJ rfl zL)), ⟨H.pick [7, 1, 2, 3, 4] (by decide), hF⟩, Nat.lt_succ_self _⟩)))
  have hF := zS c324 hF
  obtain rfl := someI hF
  exact (xJ (yO (yO (xB (zA (meet ⟨v297, (zJ rfl zL), H.pick [0, 1, 2, 3, 4] (by decide)⟩))))))
 rintro v157 ρ w158 H
 have hF := hK159
 obtain ⟨g510, hF, hK513⟩ := zG hF
 refine yL [3, 5, 21, 22, 23, 24, 25, 26, 27, 28, 29, 30, 31, 32, 33, 34, 35] (fun (g : Value) => [(3, g)]) (fun g wl => Hd O w wl S [.fz (.sl Rp.str g g510)]) ?_ ?_
 ·skip
  refine zC fun K514 hK514 => ?_
  refine zB ?_
  refine zI (.int .i64 0) ?_
  refine (zD (zA (hK514 _ _ ?_)))
  refine yG ?_
  unfold F_ref6_TracksOf_L2 at hF
  obtain ⟨B651, n652, eB653, hF⟩ := yS hF
  refine xE [3, 5, 21, 22, 23, 24, 25, 26, 27, 28, 29, 30, 31, 32, 33, 34, 35] (fun (g : Nat × (List Str) × Int × Value) => [(3, g.2.2.2), (5, .int .i64 g.2.2.1)]) (fun g wl => Hd O w wl S [.fz (.sl Rp.str g.2.2.2 g.2.1), .fz (.sl Rp.str v1 p0.Phases), .fz (.sl rMoveT v2 p0.Moves), .fz (.sl rRule v3 p0.Rules), .blk b9 [v1, v2, v3] 26] ∧ loopN B651 g.1 (g.2.1, g.2.2.1) = some g510) (fun g => g.1) (n652, g156, 0, v157) (zJ rfl (zJ rfl zL)) ⟨H.pick [0, 1, 2, 3, 4] (by decide), hF⟩ ?_
  clear H hF
  rintro ⟨n652, g648, g650, v649⟩ ρ w655 ⟨H, hF⟩
  obtain ⟨n656, rfl, hF⟩ := yX hF
  have hF := yY eB653 hF
  refine zC fun K666 hK666 => ?_
  refine zC fun K667 hK667 => ?_
  refine zB ?_
  refine zK (.int .i64 g650) ?_
  refine zH (fa26_2 rfl) ?_
  refine zH (zO one24 rfl (Cells.get (Blk.cells (H.item (i := 4) rfl)) (i := 2) rfl)) ?_
  obtain ⟨x668, e669, hF⟩ := zF hF
  obtain ⟨a670, c671, q672⟩ := SlF.len ((H.item (i := 3) rfl))
  refine zH (yN (xM u24 q672) (congrArg (Value.int .i64) e669)) ?_
  obtain ⟨x673, e674, hF⟩ := zF hF
  refine zH (zM (xI (a := g650) (b := x668) rfl rfl) e674) ?_
  refine (zD (zA (hK667 _ _ ?_)))
  refine yA (b := x673) rfl (fun c675 => ?_) (fun c675 => ?_)
  ·have hF := zQ c675 hF
   refine (zX (zA (hK666 _ _ ?_)))
   refine zC fun K697 hK697 => ?_
   refine yG ?_
   refine zB ?_
   refine zK v649 ?_
   refine zH (fa26_2 rfl) ?_
   refine zH (zO one24 rfl (Cells.get (Blk.cells (H.item (i := 4) rfl)) (i := 2) rfl)) ?_
   refine zK (.int .i64 g650) ?_
   obtain ⟨x698, e699, hF⟩ := zG hF
   obtain ⟨b700, o701, c702, cs703, q704, h707, h705, h706, h708⟩ := rd_at (H.item (i := 3) rfl) e699
   obtain ⟨v709, rfl, h710⟩ := rRule_open h707
   have H := H.fzs [.at b700 (o701 + g650.toNat * 8) _, .sl rCond v709 x698.When.Kids] ⟨⟨h705, h706, h708⟩, h710, trivial⟩
   refine zH (wC u24 sz95 q704 rfl (yP e699).1 (yP e699).2.1 rfl rfl) ?_
   refine zH (fa95_1 rfl) ?_
   refine zH (yN (yJ (cs := [.int .i64 x698.When.Kind, .string (bs x698.When.Name), .string (bs x698.When.Other), .int .i64 x698.When.Op, .int .i64 x698.When.N, .int .i64 x698.When.Frames, v709]) agg70 rfl sz70 rfl (Cells.drop (H.item (i := 5) rfl).2.2 1 7)) rfl) ?_
   obtain ⟨x713, e714, hF⟩ := zG hF
   refine zZ rfl rfl (zT en156 rfl) (F_ref6_named_s g648 x698.When v649 v709 _ e714 _ _ _ (H.enter [] [0, 6] (by decide) rfl)) ?_
   rintro _ w717 ⟨v715, rfl, G718⟩
   have H := H.back1 [0, 6] rfl G718
   refine ⟨_, rfl, ?_⟩
   refine zI v715 ?_
   refine (zD (yT (zA (hK697 _ _ ?_))))
   refine zB ?_
   refine zK (.int .i64 g650) ?_
   obtain ⟨x719, e720, hF⟩ := zF hF
   refine zH (xP (a := g650) (b := 1) rfl rfl e720) ?_
   refine zI (.int .i64 x719) ?_
   exact (zD (zA (meet ⟨(n656, x713, x719, v715), (zJ rfl (zJ rfl zL)), ⟨H.pick [7, 1, 2, 3, 4] (by decide), hF⟩, Nat.lt_succ_self _⟩)))
  have hF := zS c675 hF
  obtain rfl := someI hF
  exact (xJ (yO (yO (xB (zA (meet ⟨v649, (zJ rfl zL), H.pick [0] (by decide)⟩))))))
 rintro v511 ρ w512 H
 have hF := hK513
 refine zC fun K721 hK721 => ?_
 refine zB ?_
 refine zK v511 ?_
 refine zI v511 ?_
 refine (zD (zA (hK721 _ _ ?_)))
 obtain rfl := someI hF
 refine (yB (post1 (v1 := v511) rfl rfl ?_))
 exact ⟨v511, rfl, H.pick [0] (by decide)⟩
set_option maxHeartbeats 4000000 in
theorem F_ref6_Tracks_w (p0 : Rules) (v1 : Value) (v2 : Value) (v3 : Value) (r : (List Str) × Int) (hF : F_ref6_Tracks p0 = some r) (O S : List Nat) (w : World) (H : Hd O w w S [.fz (.sl Rp.str v1 p0.Phases), .fz (.sl rMoveT v2 p0.Moves), .fz (.sl rRule v3 p0.Rules)]) :
  Calls Tryz.prog 35 ([.agg [v1, v2, v3].toArray] : List Value).toArray w fun e w' => ∃ u7, e = .returned (.tuple #[u7, .int .i64 r.2]) ∧ Hd O w w' S [.fz (.sl Rp.str u7 r.1)] := by
 unfold F_ref6_Tracks at hF
 refine zY 12 Tryz.func35 rfl rfl rfl ?_
 refine zC fun K8 hK8 => ?_
 refine zB ?_
 refine yZ rfl rfl (wF (cs := [v1, v2, v3]) rfl H) ?_
 rintro _ w11 ⟨b9, rfl, H⟩
 refine zI (.slice none 0 0) ?_
 refine zI (.int .i64 0) ?_
 refine (zD (zA (hK8 _ _ ?_)))
 refine zC fun K23 hK23 => ?_
 refine zC fun K24 hK24 => ?_
 refine zB ?_
 refine zH (yN (yJ (cs := [v1, v2, v3]) agg26 rfl sz26 rfl (Blk.cells (H.item (i := 3) rfl))) rfl) ?_
 have H25 := H
 obtain ⟨x26, e27, hF⟩ := zG hF
 refine zZ rfl rfl (zT en32 rfl) (F_ref6_Check_w p0 v1 v2 v3 _ e27 _ _ _ (H.enter [] [0, 1, 2] (by decide) rfl)) ?_
 rintro _ w28 ⟨rfl, G29⟩
 have H := H25.step (G29.only : Only [] _ _)
 refine ⟨_, rfl, ?_⟩
 refine zI (.int .i64 x26) ?_
 refine (zD (zA (hK24 _ _ ?_)))
 refine zC fun K30 hK30 => ?_
 refine zB ?_
 refine zK (.int .i64 x26) ?_
 obtain ⟨x31, e32, hF⟩ := zF hF
 refine zH (zM (Do_neq (a := x26) (b := 0) rfl rfl) e32) ?_
 refine (zD (zA (hK30 _ _ ?_)))
 refine yA (b := x31) rfl (fun c33 => ?_) (fun c33 => ?_)
 ·have hF := zQ c33 hF
  refine zC fun K34 hK34 => ?_
  refine zB ?_
  refine zK (.int .i64 x26) ?_
  refine zI (.slice none 0 0) ?_
  refine zI (.int .i64 x26) ?_
  refine (zD (zA (hK34 _ _ ?_)))
  have H := H.fz (.sl Rp.str (.slice none 0 0) []) SlF.nil
  obtain rfl := someI hF
  refine (yB (zW (post2 (v1 := .slice none 0 0) (v2 := .int .i64 x26) rfl rfl rfl ?_)))
  exact ⟨.slice none 0 0, rfl, H.pick [4] (by decide)⟩
 have hF := zS c33 hF
 refine (zX (zA (hK23 _ _ ?_)))
 refine zC fun K36 hK36 => ?_
 refine zB ?_
 refine zH (yN (yJ (cs := [v1, v2, v3]) agg26 rfl sz26 rfl (Blk.cells (H.item (i := 3) rfl))) rfl) ?_
 obtain ⟨x37, e38, hF⟩ := zG hF
 refine zZ rfl rfl (zT en96 rfl) (F_ref6_TracksOf_w p0 v1 v2 v3 _ e38 _ _ _ (H.enter [] [0, 1, 2] (by decide) rfl)) ?_
 rintro _ w41 ⟨v39, rfl, G42⟩
 have H := H.back1 [0, 1, 2] rfl G42
 refine ⟨_, rfl, ?_⟩
 refine zI v39 ?_
 refine zI (.int .i64 0) ?_
 refine (zD (zA (hK36 _ _ ?_)))
 obtain rfl := someI hF
 refine (yB (post2 (v1 := v39) (v2 := .int .i64 0) rfl rfl rfl ?_))
 exact ⟨v39, rfl, H.pick [4] (by decide)⟩
abbrev S_event_depth (f : Cond → (List (Str × Int)) → Option Int) : Prop := ∀ (p0 : Cond) (p1 : List (Str × Int)) (v1 : Value) (b3 : Nat) (r : Int) (_ : f p0 p1 = some r) (O S : List Nat) (w : World) (_ : Hd O w w S [.fz (.sl rCond v1 p0.Kids), .fz (.mp b3 (mcells Ky.str (fun v => Value.int .i64 v) p1))]),
  Calls Tryz.prog 97 ([.agg [.int .i64 p0.Kind, .string (bs p0.Name), .string (bs p0.Other), .int .i64 p0.Op, .int .i64 p0.N, .int .i64 p0.Frames, v1].toArray, .map (some b3)] : List Value).toArray w fun e w' => e = .returned (.int .i64 r) ∧ Hd O w w' S []
end Go.Proofs.YtckmiljbaejijaaGreatDoor.L
