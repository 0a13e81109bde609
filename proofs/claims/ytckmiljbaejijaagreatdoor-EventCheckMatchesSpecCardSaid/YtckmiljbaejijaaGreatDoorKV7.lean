/- Walks: what each function computes, for every argument; no condition but those that stand in the statements. -/
import Derived.Test.YtckmiljbaejijaaGreatDoorKV0
import Derived.Test.YtckmiljbaejijaaGreatDoorKV6
import Derived.Test.YtckmiljbaejijaaGreatDoorKV2
namespace Go.Proofs.YtckmiljbaejijaaGreatDoor.L
open Go.RowKit Go.OB Go.Lf
set_option maxHeartbeats 4000000 in
theorem F_event_reader_run_w (p0 : EventReader) (b1 : Nat) (v2 : Value) (v3 : Value) (v4 : Value) (r : EventReader) (hF : F_event_reader_run p0 = some r) (O S : List Nat) (w : World) (H : Hd O w w S [.own Rp.str v2 9 p0.r.Phases, .own rMoveT v3 122 p0.r.Moves, .own rRule v4 95 p0.r.Rules, .blk b1 [.string (bs p0.text), .int .i64 p0.at_, .int .i64 p0.now.kind, .int .i64 p0.now.at_, .int .i64 p0.now.n, .string (bs p0.now.text), v2, v3, v4] 109, .fz (.gi 4)]) :
  Calls Tryz.prog 175 ([.pointer (some ⟨b1, 0, none⟩)] : List Value).toArray w fun e w' => ∃ u10 u11 u12, e = .returned (.tuple #[]) ∧ Hd O w w' S [.own Rp.str u10 9 r.r.Phases, .own rMoveT u11 122 r.r.Moves, .own rRule u12 95 r.r.Rules, .blk b1 [.string (bs r.text), .int .i64 r.at_, .int .i64 r.now.kind, .int .i64 r.now.at_, .int .i64 r.now.n, .string (bs r.now.text), u10, u11, u12] 109] := by
 unfold F_event_reader_run at hF
 refine zY 55 Tryz.func175 rfl rfl rfl ?_
 refine zC fun K13 hK13 => ?_
 refine zB ?_
 refine zK (.pointer (some ⟨b1, 0, none⟩)) ?_
 refine zH (yM rfl) ?_
 refine zH (fa109_2 rfl) ?_
 refine zH (fa107_3 rfl) ?_
 refine zH (zO one9 rfl (Cells.get (Blk.cells (H.item (i := 3) rfl)) (i := 5) rfl)) ?_
 refine zI (.string (bs p0.now.text)) ?_
 refine (zD (zA (hK13 _ _ ?_)))
 refine zC fun K14 hK14 => ?_
 refine zB ?_
 refine zK (.string (bs p0.now.text)) ?_
 obtain ⟨⟨x15, x16⟩, e17, hF⟩ := zG hF
 refine zZ rfl rfl (zT en213 rfl) (E.X_Atoi_w p0.now.text _ e17 _ _ _ (H.enter [] [4] (by decide) rfl)) ?_
 rintro _ w20 ⟨v18, rfl, G21⟩
 have H := H.back1 [4] rfl G21
 refine ⟨_, rfl, ?_⟩
 refine zK (.tuple #[.int .i64 x15, v18]) ?_
 refine zH (xY (v := .int .i64 x15) rfl rfl) ?_
 refine zH (xY (v := v18) rfl rfl) ?_
 refine zI (.int .i64 x15) ?_
 refine zI v18 ?_
 refine (zD (zA (hK14 _ _ ?_)))
 refine yG ?_
 refine zC fun K22 hK22 => ?_
 refine zB ?_
 refine zK (.string (bs p0.now.text)) ?_
 have H23 := H
 obtain ⟨x24, e25, hF⟩ := zG hF
 refine zZ rfl rfl (zT en144 rfl) (F_event_isWord_w p0.now.text _ e25 _ _ _ (H.enter [] [] (by decide) rfl)) ?_
 rintro _ w26 ⟨rfl, G27⟩
 have H := H23.step (G27.only : Only [] _ _)
 refine ⟨_, rfl, ?_⟩
 refine zI (.bool x24) ?_
 refine (zD (zA (hK22 _ _ ?_)))
 refine yA (b := x24) rfl (fun c28 => ?_) (fun c28 => ?_)
 ·have hF := zQ c28 hF
  refine zB ?_
  refine zK (.pointer (some ⟨b1, 0, none⟩)) ?_
  refine zH (yM rfl) ?_
  refine zH (fa109_2 rfl) ?_
  refine zH (fa107_0 rfl) ?_
  refine xH rfl (wH H 3 rfl sz3 rfl (v := .int .i64 1) rfl rfl rfl) ?_
  rintro w29 H
  obtain rfl := someI hF
  refine (zD (yT (post0n rfl ?_)))
  exact ⟨v2, v3, v4, rfl, H.pick [0, 1, 2, 3] (by decide)⟩
 have hF := zS c28 hF
 refine zC fun K30 hK30 => ?_
 refine zB ?_
 refine zK (.string (bs p0.now.text)) ?_
 have H31 := H
 obtain ⟨x32, e33, hF⟩ := zG hF
 refine zZ rfl rfl (zT en86 rfl) (F_event_isName_w p0.now.text _ e33 _ _ _ (H.enter [] [] (by decide) rfl)) ?_
 rintro _ w34 ⟨rfl, G35⟩
 have H := H31.step (G35.only : Only [] _ _)
 refine ⟨_, rfl, ?_⟩
 refine zI (.bool x32) ?_
 refine (zD (zA (hK30 _ _ ?_)))
 refine yA (b := x32) rfl (fun c36 => ?_) (fun c36 => ?_)
 ·have hF := zQ c36 hF
  refine zB ?_
  refine zK (.pointer (some ⟨b1, 0, none⟩)) ?_
  refine zH (yM rfl) ?_
  refine zH (fa109_2 rfl) ?_
  refine zH (fa107_0 rfl) ?_
  refine xH rfl (wH H 3 rfl sz3 rfl (v := .int .i64 2) rfl rfl rfl) ?_
  rintro w37 H
  obtain rfl := someI hF
  refine (zD (yT (post0n rfl ?_)))
  exact ⟨v2, v3, v4, rfl, H.pick [0, 1, 2, 3] (by decide)⟩
 have hF := zS c36 hF
 refine zC fun K61 hK61 => ?_
 refine zB ?_
 refine zK v18 ?_
 obtain ⟨x62, e63, hF⟩ := zF hF
 refine zH (zM (Do_eqlif ui131 (H.item (i := 5) rfl) rfl) e63) ?_
 obtain ⟨j64, hF, hK65⟩ := zG hF
 refine RL_cutS 6 [34, 35, 36, 37, 38, 39] [(39, .bool j64)] (fun wl => Hd O w wl S [.own Rp.str v2 9 p0.r.Phases, .own rMoveT v3 122 p0.r.Moves, .own rRule v4 95 p0.r.Rules, .blk b1 [.string (bs p0.text), .int .i64 p0.at_, .int .i64 p0.now.kind, .int .i64 p0.now.at_, .int .i64 p0.now.n, .string (bs p0.now.text), v2, v3, v4] 109, .fz (.gi 4), .fz (.ic v18 x16)]) ?_ ?_
 ·skip
  obtain ⟨c67, hF⟩ := iteB_nf hF
  refine RL_sp true c67 ?_
  refine zK (.int .i64 x15) ?_
  have H68 := H
  obtain ⟨x69, e70, hF⟩ := zG hF
  refine zZ rfl rfl (zT en130 rfl) (E.X_Itoa_w x15 _ e70 _ _ _ (H.enter [] [] (by decide) rfl)) ?_
  rintro _ w71 ⟨rfl, G72⟩
  have H := H68.step (G72.only : Only [] _ _)
  refine ⟨_, rfl, ?_⟩
  refine zK (.string (bs p0.now.text)) ?_
  obtain ⟨x73, e74, hF⟩ := zF hF
  refine zH (zM (xW (s1 := x69) (s2 := p0.now.text) rfl rfl) e74) ?_
  refine zH (yI (v := .bool x73) rfl rfl) ?_
  obtain rfl := someI hF
  exact zD (zA (meet ⟨(zJ rfl zL), H.pick [0, 1, 2, 3, 4, 5] (by decide)⟩))
 rintro ρ w66 H
 have hF := hK65
 obtain ⟨c75, hF⟩ := iteB_nf hF
 refine RL_sp true c75 ?_
 refine zK (.string (bs p0.now.text)) ?_
 have H76 := H
 obtain ⟨x77, e78, hF⟩ := zG hF
 refine zZ rfl rfl (zT en214 rfl) (F_strings_TrimPrefix_w p0.now.text [45] _ e78 _ _ _ (H.enter [] [] (by decide) rfl)) ?_
 rintro _ w79 ⟨rfl, G80⟩
 have H := H76.step (G80.only : Only [] _ _)
 refine ⟨_, rfl, ?_⟩
 obtain ⟨x81, e82, hF⟩ := zF hF
 refine zH (yN (Do_slen (s1 := x77) u9 rfl) (congrArg (Value.int .i64) e82)) ?_
 obtain ⟨x83, e84, hF⟩ := zF hF
 refine zH (zM (Do_leq (a := x81) (b := 16) rfl rfl) e84) ?_
 refine zH (yI (v := .bool x83) rfl rfl) ?_
 refine zI (.bool x83) ?_
 refine (zD (zA (hK61 _ _ ?_)))
 obtain ⟨c85, hF⟩ := iteB_nf hF
 refine WP_ifT c85 ?_
 refine zB ?_
 refine zK (.pointer (some ⟨b1, 0, none⟩)) ?_
 refine zK (.pointer (some ⟨b1, 0, none⟩)) ?_
 refine zK (.int .i64 x15) ?_
 refine zH (yM rfl) ?_
 refine zH (fa109_2 rfl) ?_
 refine zH (fa107_0 rfl) ?_
 refine xH rfl (wH H 3 rfl sz3 rfl (v := .int .i64 3) rfl rfl rfl) ?_
 rintro w86 H
 refine zH (yM rfl) ?_
 refine zH (fa109_2 rfl) ?_
 refine zH (fa107_2 rfl) ?_
 refine xH rfl (wH H 3 rfl sz3 rfl (v := .int .i64 x15) rfl rfl rfl) ?_
 rintro w87 H
 obtain rfl := someI hF
 refine (zD (yT (post0n rfl ?_)))
 exact ⟨v2, v3, v4, rfl, H.pick [0, 1, 2, 3] (by decide)⟩
set_option maxHeartbeats 4000000 in
theorem F_strings_HasPrefix_w (p0 : Str) (p1 : Str) (r : Bool) (hF : F_strings_HasPrefix p0 p1 = some r) (O S : List Nat) (w : World) (H : Hd O w w S []) :
  Calls Tryz.prog 176 ([.string (bs p0), .string (bs p1)] : List Value).toArray w fun e w' => e = .returned (.bool r) ∧ Hd O w w' S [] := by
 unfold F_strings_HasPrefix at hF
 refine zY 8 Tryz.func176 rfl rfl rfl ?_
 refine zC fun K1 hK1 => ?_
 refine zB ?_
 refine zI (.bool false) ?_
 refine (zD (zA (hK1 _ _ ?_)))
 refine zC fun K2 hK2 => ?_
 refine zB ?_
 refine zK (.string (bs p0)) ?_
 refine zK (.string (bs p1)) ?_
 have H3 := H
 obtain ⟨x4, e5, hF⟩ := zG hF
 refine zZ rfl rfl (zT en215 rfl) (F_internal_stringslite_HasPrefix_w p0 p1 _ e5 _ _ _ (H.enter [] [] (by decide) rfl)) ?_
 rintro _ w6 ⟨rfl, G7⟩
 have H := H3.step (G7.only : Only [] _ _)
 refine ⟨_, rfl, ?_⟩
 refine zI (.bool x4) ?_
 refine (zD (zA (hK2 _ _ ?_)))
 obtain rfl := someI hF
 refine (yB (post1 (v1 := .bool x4) rfl rfl ?_))
 exact ⟨rfl, H.pick [] (by decide)⟩
set_option maxHeartbeats 4000000 in
theorem F_event_reader_advance_w (p0 : EventReader) (b1 : Nat) (v2 : Value) (v3 : Value) (v4 : Value) (r : EventReader) (hF : F_event_reader_advance p0 = some r) (O S : List Nat) (w : World) (H : Hd O w w S [.own Rp.str v2 9 p0.r.Phases, .own rMoveT v3 122 p0.r.Moves, .own rRule v4 95 p0.r.Rules, .blk b1 [.string (bs p0.text), .int .i64 p0.at_, .int .i64 p0.now.kind, .int .i64 p0.now.at_, .int .i64 p0.now.n, .string (bs p0.now.text), v2, v3, v4] 109, .fz (.gi 4)]) :
  Calls Tryz.prog 120 ([.pointer (some ⟨b1, 0, none⟩)] : List Value).toArray w fun e w' => ∃ u10 u11 u12, e = .returned (.tuple #[]) ∧ Hd O w w' S [.own Rp.str u10 9 r.r.Phases, .own rMoveT u11 122 r.r.Moves, .own rRule u12 95 r.r.Rules, .blk b1 [.string (bs r.text), .int .i64 r.at_, .int .i64 r.now.kind, .int .i64 r.now.at_, .int .i64 r.now.n, .string (bs r.now.text), u10, u11, u12] 109] := by
 unfold F_event_reader_advance at hF
 refine zY 107 Tryz.func120 rfl rfl rfl ?_
 refine zC fun K13 hK13 => ?_
 refine zB ?_
 refine zK (.pointer (some ⟨b1, 0, none⟩)) ?_
 obtain ⟨x14, e15, hF⟩ := zG hF
 refine zZ rfl rfl (zT en174 rfl) (F_event_reader_blanks_w p0 b1 v2 v3 v4 _ e15 _ _ _ (H.enter [0, 1, 2, 3] [] (by decide) rfl)) ?_
 rintro _ w22 ⟨v16, v17, v18, rfl, G23⟩
 have H : Hd O _ w22 _ [.fz (.gi 4), .own Rp.str v16 9 x14.r.Phases, .own rMoveT v17 122 x14.r.Moves, .own rRule v18 95 x14.r.Rules, .blk b1 [.string (bs x14.text), .int .i64 x14.at_, .int .i64 x14.now.kind, .int .i64 x14.now.at_, .int .i64 x14.now.n, .string (bs x14.now.text), v16, v17, v18] 109] := H.back [0, 1, 2, 3] [] rfl G23
 refine ⟨_, rfl, ?_⟩
 refine (zD (zA (hK13 _ _ ?_)))
 refine zC fun K24 hK24 => ?_
 refine zB ?_
 refine zK (.pointer (some ⟨b1, 0, none⟩)) ?_
 refine zH (yM rfl) ?_
 refine zH (fa109_1 rfl) ?_
 refine zH (zO one3 rfl (Cells.get (Blk.cells (H.item (i := 4) rfl)) (i := 1) rfl)) ?_
 refine zI (.int .i64 x14.at_) ?_
 refine (zD (zA (hK24 _ _ ?_)))
 refine zC fun K25 hK25 => ?_
 refine zB ?_
 refine zK (.pointer (some ⟨b1, 0, none⟩)) ?_
 refine zK (.int .i64 x14.at_) ?_
 refine zH (Do_build (cs := [.int .i64 0, .int .i64 x14.at_, .int .i64 0, .string (bs [])]) (bt107_0_1 _ _)) ?_
 refine zH (yM rfl) ?_
 refine zH (fa109_2 rfl) ?_
 refine xH rfl (xC (vs := [.int .i64 0, .int .i64 x14.at_, .int .i64 0, .string (bs [])]) H 4 rfl sz107 rfl rfl rfl ⟨rfl, rfl, rfl, rfl, trivial⟩ rfl) ?_
 rintro w26 H
 refine (zD (zA (hK25 _ _ ?_)))
 refine zC fun K33 hK33 => ?_
 refine zC fun K34 hK34 => ?_
 refine zB ?_
 refine zK (.int .i64 x14.at_) ?_
 refine zK (.pointer (some ⟨b1, 0, none⟩)) ?_
 refine zH (yM rfl) ?_
 refine zH (fa109_0 rfl) ?_
 refine zH (zO one9 rfl (Cells.get (Blk.cells (H.item (i := 4) rfl)) (i := 0) rfl)) ?_
 obtain ⟨x35, e36, hF⟩ := zF hF
 refine zH (yN (Do_slen (s1 := x14.text) u9 rfl) (congrArg (Value.int .i64) e36)) ?_
 obtain ⟨x37, e38, hF⟩ := zF hF
 refine zH (zM (yR (a := x14.at_) (b := x35) rfl rfl) e38) ?_
 refine (zD (zA (hK34 _ _ ?_)))
 refine yA (b := x37) rfl (fun c39 => ?_) (fun c39 => ?_)
 ·have hF := zQ c39 hF
  obtain rfl := someI hF
  refine (yB (zW (post0 rfl ?_)))
  exact ⟨v16, v17, v18, rfl, H.pick [1, 2, 3, 4] (by decide)⟩
 have hF := zS c39 hF
 refine (zX (zA (hK33 _ _ ?_)))
 obtain ⟨g167, hF, hK169⟩ := zG hF
 refine yL [23, 24, 25, 26, 27, 28, 29, 30, 31, 32, 33, 34, 35, 36, 37, 38, 39, 40, 41, 42, 43, 44, 45, 46, 47, 48, 49, 50, 51] (fun (g : Unit) => []) (fun g wl => Hd O w wl S [.fz (.gi 4), .own Rp.str v16 9 x14.r.Phases, .own rMoveT v17 122 x14.r.Moves, .own rRule v18 95 x14.r.Rules, .blk b1 [.string (bs x14.text), .int .i64 g167, .int .i64 0, .int .i64 x14.at_, .int .i64 0, .string (bs []), v16, v17, v18] 109]) ?_ ?_
 ·skip
  refine yG ?_
  unfold F_event_reader_advance_L1 at hF
  obtain ⟨B292, n293, eB294, hF⟩ := yS hF
  refine xE [23, 24, 25, 26, 27, 28, 29, 30, 31, 32, 33, 34, 35, 36, 37, 38, 39, 40, 41, 42, 43, 44, 45, 46, 47, 48, 49, 50, 51] (fun (g : Nat × Int) => []) (fun g wl => Hd O w wl S [.fz (.gi 4), .own Rp.str v16 9 x14.r.Phases, .own rMoveT v17 122 x14.r.Moves, .own rRule v18 95 x14.r.Rules, .blk b1 [.string (bs x14.text), .int .i64 g.2, .int .i64 0, .int .i64 x14.at_, .int .i64 0, .string (bs []), v16, v17, v18] 109] ∧ loopN B292 g.1 g.2 = some g167) (fun g => g.1) (n293, x14.at_) zL ⟨H.pick [0, 1, 2, 3, 4] (by decide), hF⟩ ?_
  clear H hF
  rintro ⟨n293, g291⟩ ρ w296 ⟨H, hF⟩
  obtain ⟨n297, rfl, hF⟩ := yX hF
  have hF := yY eB294 hF
  refine zC fun K326 hK326 => ?_
  refine zC fun K340 hK340 => ?_
  have H341 := H
  have H := H.rebase
  have H342 := H
  refine WP_mix0 H [0, 1, 2, 3, 4, 5, 6, 7, 8, 9, 10, 11, 12, 13, 14, 15, 16, 17, 18, 19, 20, 21] [.pure, .pure, .pure, .read, .pure, .pure, .pure, .read, .pure, .pure, .pure, .pure, .pure, .pure, .read, .pure, .pure, .pure, .read, .pure, .fcall, .pure] mixed (by kernel_rfl) (by kernel_rfl) (by kernel_rfl) rfl ?_
  refine Mx.yD rfl rfl rfl (fun w' hw' => xK (v := .pointer (some ⟨b1, 0, none⟩)) rfl) ?_
  refine Mx.yD rfl rfl rfl (fun w' hw' => yM rfl) ?_
  refine Mx.yD rfl rfl rfl (fun w' hw' => fa109_1 rfl) ?_
  refine Mx.xO oS rfl rfl rfl (fun w' hw' => zO one3 rfl (Cells.get (Blk.cells ((H.sees hw').item (i := 4) rfl)) (i := 1) rfl)) ?_
  refine Mx.yD rfl rfl rfl (fun w' hw' => xK (v := .pointer (some ⟨b1, 0, none⟩)) rfl) ?_
  refine Mx.yD rfl rfl rfl (fun w' hw' => yM rfl) ?_
  refine Mx.yD rfl rfl rfl (fun w' hw' => fa109_0 rfl) ?_
  refine Mx.xO oS rfl rfl rfl (fun w' hw' => zO one9 rfl (Cells.get (Blk.cells ((H.sees hw').item (i := 4) rfl)) (i := 0) rfl)) ?_
  obtain ⟨x343, e344, hF⟩ := zF hF
  refine Mx.yD rfl rfl rfl (fun w' hw' => yN (Do_slen (s1 := x14.text) u9 rfl) (congrArg (Value.int .i64) e344)) ?_
  obtain ⟨x345, e346, hF⟩ := zF hF
  refine Mx.yD rfl rfl rfl (fun w' hw' => zM (xI (a := g291) (b := x343) rfl rfl) e346) ?_
  obtain ⟨c347, hF⟩ := iteB_nf hF
  refine Mx.XL_sp true c347 ?_
  refine Mx.yD rfl rfl rfl (fun w' hw' => xK (v := .pointer (some ⟨b1, 0, none⟩)) rfl) ?_
  refine Mx.yD rfl rfl rfl (fun w' hw' => yM rfl) ?_
  refine Mx.yD rfl rfl rfl (fun w' hw' => fa109_0 rfl) ?_
  refine Mx.xO oS rfl rfl rfl (fun w' hw' => zO one9 rfl (Cells.get (Blk.cells ((H.sees hw').item (i := 4) rfl)) (i := 0) rfl)) ?_
  refine Mx.yD rfl rfl rfl (fun w' hw' => xK (v := .pointer (some ⟨b1, 0, none⟩)) rfl) ?_
  refine Mx.yD rfl rfl rfl (fun w' hw' => yM rfl) ?_
  refine Mx.yD rfl rfl rfl (fun w' hw' => fa109_1 rfl) ?_
  refine Mx.xO oS rfl rfl rfl (fun w' hw' => zO one3 rfl (Cells.get (Blk.cells ((H.sees hw').item (i := 4) rfl)) (i := 1) rfl)) ?_
  obtain ⟨x348, e349, hF⟩ := zG hF
  refine Mx.yD rfl rfl rfl (fun w' hw' => Do_sidx (s1 := x14.text) (q := g291) u9 rfl rfl e349) ?_
  have H350 := H
  obtain ⟨x351, e352, hF⟩ := zG hF
  refine Mx.XL_fcall oS rfl rfl rfl (v := .bool x351) (fun w' hw' => zT en145 rfl) (fun w' hw' => call_read (F_event_nameByte_w x348 _ e352 _ _ _ (Hd.fresh0 w'))) ?_
  have H := H350
  refine Mx.yD rfl rfl rfl (fun w' hw' => yI (v := .bool x351) rfl rfl) ?_
  refine Mx.XL_nil fun w353 hS => ?_
  have H := H.sees hS
  have H := H341.rejoin H
  refine (zA (hK340 _ _ ?_))
  refine yA (b := x351) rfl (fun c354 => ?_) (fun c354 => ?_)
  ·have hF := zQ c354 hF
   refine (zX (zA (hK326 _ _ ?_)))
   refine yG ?_
   refine zB ?_
   refine zK (.pointer (some ⟨b1, 0, none⟩)) ?_
   refine zH (yM rfl) ?_
   refine zH (fa109_1 rfl) ?_
   refine zH (zO one3 rfl (Cells.get (Blk.cells (H.item (i := 4) rfl)) (i := 1) rfl)) ?_
   obtain ⟨x355, e356, hF⟩ := zF hF
   refine zH (xP (a := g291) (b := 1) rfl rfl e356) ?_
   refine zH (yM rfl) ?_
   refine zH (fa109_1 rfl) ?_
   refine xH rfl (wH H 4 rfl sz3 rfl (v := .int .i64 x355) rfl rfl rfl) ?_
   rintro w357 H
   exact (zD (yT (zA (meet ⟨(n297, x355), zL, ⟨H.pick [0, 1, 2, 3, 4] (by decide), hF⟩, Nat.lt_succ_self _⟩))))
  have hF := zS c354 hF
  obtain rfl := someI hF
  exact (xJ (yO (yO (xB (zA (meet ⟨(), zL, H.pick [0, 1, 2, 3, 4] (by decide)⟩))))))
 rintro _ ρ w168 H
 have hF := hK169
 refine zC fun K380 hK380 => ?_
 refine zC fun K381 hK381 => ?_
 refine zB ?_
 refine zK (.pointer (some ⟨b1, 0, none⟩)) ?_
 refine zH (yM rfl) ?_
 refine zH (fa109_1 rfl) ?_
 refine zH (zO one3 rfl (Cells.get (Blk.cells (H.item (i := 4) rfl)) (i := 1) rfl)) ?_
 refine zK (.int .i64 x14.at_) ?_
 obtain ⟨x382, e383, hF⟩ := zF hF
 refine zH (zM (Do_gtr (a := g167) (b := x14.at_) rfl rfl) e383) ?_
 refine (zD (zA (hK381 _ _ ?_)))
 refine yA (b := x382) rfl (fun c384 => ?_) (fun c384 => ?_)
 ·have hF := zQ c384 hF
  refine zC fun K385 hK385 => ?_
  have H386 := H
  have H := H.rebase
  have H387 := H
  refine WP_mix0 H [0, 1, 2, 3, 4, 5, 6, 7, 8, 9, 10, 11, 12, 13, 14] [.pure, .pure, .pure, .pure, .read, .pure, .pure, .pure, .pure, .read, .pure, .pure, .pure, .pure, .eff] mixed (by kernel_rfl) (by kernel_rfl) (by kernel_rfl) rfl ?_
  refine Mx.yD rfl rfl rfl (fun w' hw' => xK (v := .pointer (some ⟨b1, 0, none⟩)) rfl) ?_
  refine Mx.yD rfl rfl rfl (fun w' hw' => xK (v := .pointer (some ⟨b1, 0, none⟩)) rfl) ?_
  refine Mx.yD rfl rfl rfl (fun w' hw' => yM rfl) ?_
  refine Mx.yD rfl rfl rfl (fun w' hw' => fa109_0 rfl) ?_
  refine Mx.xO oS rfl rfl rfl (fun w' hw' => zO one9 rfl (Cells.get (Blk.cells ((H.sees hw').item (i := 4) rfl)) (i := 0) rfl)) ?_
  refine Mx.yD rfl rfl rfl (fun w' hw' => xK (v := .int .i64 x14.at_) rfl) ?_
  refine Mx.yD rfl rfl rfl (fun w' hw' => xK (v := .pointer (some ⟨b1, 0, none⟩)) rfl) ?_
  refine Mx.yD rfl rfl rfl (fun w' hw' => yM rfl) ?_
  refine Mx.yD rfl rfl rfl (fun w' hw' => fa109_1 rfl) ?_
  refine Mx.xO oS rfl rfl rfl (fun w' hw' => zO one3 rfl (Cells.get (Blk.cells ((H.sees hw').item (i := 4) rfl)) (i := 1) rfl)) ?_
  obtain ⟨x388, e389, hF⟩ := zG hF
  refine Mx.yD rfl rfl rfl (fun w' hw' => Do_cut_lh (s1 := x14.text) u9 rfl rfl rfl e389) ?_
  refine Mx.yD rfl rfl rfl (fun w' hw' => yM rfl) ?_
  refine Mx.yD rfl rfl rfl (fun w' hw' => fa109_2 rfl) ?_
  refine Mx.yD rfl rfl rfl (fun w' hw' => fa107_3 rfl) ?_
  refine Mx.XL_exU oS rfl rfl (fun w' hw' => wH (H.sees hw') 4 rfl sz9 rfl (v := .string (bs x388)) rfl rfl rfl) ?_
  rintro w' w390 hw' H
  refine ⟨H.only, ?_⟩
  refine Mx.XL_nil fun w391 hS => ?_
  have H := H.sees hS
  have H := H386.rejoin H
  refine (zA (hK385 _ _ ?_))
  refine zC fun K392 hK392 => ?_
  refine zB ?_
  refine zK (.pointer (some ⟨b1, 0, none⟩)) ?_
  obtain ⟨x393, e394, hF⟩ := zG hF
  refine zZ rfl rfl (zT en175 rfl) (F_event_reader_run_w (EventReader.mk x14.text g167 (EventToken.mk 0 x14.at_ 0 x388) x14.r) b1 v16 v17 v18 _ e394 _ _ _ (H.enter [1, 2, 3, 4] [0] (by decide) rfl)) ?_
  rintro _ w401 ⟨v395, v396, v397, rfl, G402⟩
  have H : Hd O _ w401 _ [.fz (.gi 4), .own Rp.str v395 9 x393.r.Phases, .own rMoveT v396 122 x393.r.Moves, .own rRule v397 95 x393.r.Rules, .blk b1 [.string (bs x393.text), .int .i64 x393.at_, .int .i64 x393.now.kind, .int .i64 x393.now.at_, .int .i64 x393.now.n, .string (bs x393.now.text), v395, v396, v397] 109] := H.back [1, 2, 3, 4] [0] rfl G402
  refine ⟨_, rfl, ?_⟩
  refine (zD (zA (hK392 _ _ ?_)))
  obtain rfl := someI hF
  refine (yB (zW (post0 rfl ?_)))
  exact ⟨v395, v396, v397, rfl, H.pick [1, 2, 3, 4] (by decide)⟩
 have hF := zS c384 hF
 refine (zX (zA (hK380 _ _ ?_)))
 refine zC fun K555 hK555 => ?_
 refine zC fun K556 hK556 => ?_
 refine zB ?_
 obtain ⟨x557, e558, hF⟩ := zF hF
 subst e558
 refine yZ rfl rfl (Lx_bs (r := Rp.str) (xl := [[60, 61], [33, 61], [62, 61], [60], [61], [62], [40], [41]]) (cs := [.string (bs [60, 61]), .string (bs [33, 61]), .string (bs [62, 61]), .string (bs [60]), .string (bs [61]), .string (bs [62]), .string (bs [40]), .string (bs [41])]) u22 el9 (by decide) (by decide) rfl (xU (vs := [.string (bs [60, 61]), .string (bs [33, 61]), .string (bs [62, 61]), .string (bs [60]), .string (bs [61]), .string (bs [62]), .string (bs [40]), .string (bs [41])]) (by decide) rfl rfl ⟨rfl, rfl, rfl, rfl, rfl, rfl, rfl, rfl, trivial⟩ rfl) H ⟨[.string (bs [60, 61])], [.string (bs [33, 61]), .string (bs [62, 61]), .string (bs [60]), .string (bs [61]), .string (bs [62]), .string (bs [40]), .string (bs [41])], rfl, rfl, ⟨[.string (bs [33, 61])], [.string (bs [62, 61]), .string (bs [60]), .string (bs [61]), .string (bs [62]), .string (bs [40]), .string (bs [41])], rfl, rfl, ⟨[.string (bs [62, 61])], [.string (bs [60]), .string (bs [61]), .string (bs [62]), .string (bs [40]), .string (bs [41])], rfl, rfl, ⟨[.string (bs [60])], [.string (bs [61]), .string (bs [62]), .string (bs [40]), .string (bs [41])], rfl, rfl, ⟨[.string (bs [61])], [.string (bs [62]), .string (bs [40]), .string (bs [41])], rfl, rfl, ⟨[.string (bs [62])], [.string (bs [40]), .string (bs [41])], rfl, rfl, ⟨[.string (bs [40])], [.string (bs [41])], rfl, rfl, ⟨[.string (bs [41])], [], rfl, rfl, rfl⟩⟩⟩⟩⟩⟩⟩⟩) ?_
 rintro v560 w561 H
 obtain ⟨x562, e563, hF⟩ := zF hF
 obtain ⟨a564, c565, q566⟩ := Sr.len (Sr.of_own (H.item (i := 5) rfl))
 refine zH (yN (xM u22 q566) (congrArg (Value.int .i64) e563)) ?_
 refine zK (.int .i64 0) ?_
 refine (zD (zA (hK556 _ _ ?_)))
 refine yG ?_
 unfold F_event_reader_advance_L2 at hF
 obtain ⟨B703, n704, eB705, hF⟩ := yS hF
 refine xE [4, 76, 77, 78, 79, 80, 81, 82, 83, 84, 85, 86, 87, 88, 89, 90, 91, 92, 93, 94, 95, 96, 97, 98, 99, 100, 101, 102, 103, 104] (fun (g : Nat × Int) => [(76, .int .i64 g.2)]) (fun g wl => Hd O w wl S [.fz (.gi 4), .own Rp.str v16 9 x14.r.Phases, .own rMoveT v17 122 x14.r.Moves, .own rRule v18 95 x14.r.Rules, .blk b1 [.string (bs x14.text), .int .i64 g167, .int .i64 0, .int .i64 x14.at_, .int .i64 0, .string (bs []), v16, v17, v18] 109, .own Rp.str v560 9 ([[60, 61], [33, 61], [62, 61], [60], [61], [62], [40], [41]] : List Str)] ∧ loopN B703 g.1 g.2 = some r) (fun g => g.1) (n704, 0) (zJ rfl zL) ⟨H.pick [0, 1, 2, 3, 4, 5] (by decide), hF⟩ ?_
 clear H hF
 rintro ⟨n704, g702⟩ ρ w707 ⟨H, hF⟩
 obtain ⟨n708, rfl, hF⟩ := yX hF
 have hF := yY eB705 hF
 refine zC fun K709 hK709 => ?_
 refine zB ?_
 obtain ⟨x710, e711, hF⟩ := zF hF
 refine zH (zM (xI (a := g702) (b := x562) rfl rfl) e711) ?_
 refine (zD (zA (hK709 _ _ ?_)))
 refine zC fun K713 hK713 => ?_
 obtain ⟨c714, hF⟩ := iteB_nf hF
 refine WP_ifT c714 ?_
 refine (zX (zA (hK713 _ _ ?_)))
 refine zC fun K744 hK744 => ?_
 refine yG ?_
 refine zC fun K745 hK745 => ?_
 refine zB ?_
 obtain ⟨x746, e747, hF⟩ := zG hF
 obtain ⟨b748, c750, cs751, q752, h755, h756⟩ := own_at (H.item (i := 5) rfl) e747
 obtain rfl : cs751 = [.string (bs x746)] := h755
 refine zH (wC u22 sz9 q752 rfl (yP e747).1 (yP e747).2.1 rfl rfl) ?_
 refine zH (zO one9 rfl (Cells.get h756 (i := 0) rfl)) ?_
 refine zI (.string (bs x746)) ?_
 refine (zD (zA (hK745 _ _ ?_)))
 refine zC fun K757 hK757 => ?_
 refine zB ?_
 refine zK (.pointer (some ⟨b1, 0, none⟩)) ?_
 refine zH (yM rfl) ?_
 refine zH (fa109_0 rfl) ?_
 refine zH (zO one9 rfl (Cells.get (Blk.cells (H.item (i := 4) rfl)) (i := 0) rfl)) ?_
 refine zK (.int .i64 x14.at_) ?_
 obtain ⟨x758, e759, hF⟩ := zG hF
 refine zH (Do_cut_l (s1 := x14.text) u9 rfl rfl e759) ?_
 refine zK (.string (bs x746)) ?_
 have H760 := H
 obtain ⟨x761, e762, hF⟩ := zG hF
 refine zZ rfl rfl (zT en176 rfl) (F_strings_HasPrefix_w x758 x746 _ e762 _ _ _ (H.enter [] [] (by decide) rfl)) ?_
 rintro _ w763 ⟨rfl, G764⟩
 have H := H760.step (G764.only : Only [] _ _)
 refine ⟨_, rfl, ?_⟩
 refine (zD (zA (hK757 _ _ ?_)))
 refine yA (b := x761) rfl (fun c765 => ?_) (fun c765 => ?_)
 ·have hF := zQ c765 hF
  refine zC fun K766 hK766 => ?_
  refine zB ?_
  refine zK (.pointer (some ⟨b1, 0, none⟩)) ?_
  refine zK (.pointer (some ⟨b1, 0, none⟩)) ?_
  refine zK (.pointer (some ⟨b1, 0, none⟩)) ?_
  refine zK (.string (bs x746)) ?_
  refine zK (.int .i64 x14.at_) ?_
  refine zK (.string (bs x746)) ?_
  obtain ⟨x767, e768, hF⟩ := zF hF
  refine zH (yN (Do_slen (s1 := x746) u9 rfl) (congrArg (Value.int .i64) e768)) ?_
  obtain ⟨x769, e770, hF⟩ := zF hF
  refine zH (xP (a := x14.at_) (b := x767) rfl rfl e770) ?_
  refine zH (yM rfl) ?_
  refine zH (fa109_2 rfl) ?_
  refine zH (fa107_0 rfl) ?_
  refine xH rfl (wH H 4 rfl sz3 rfl (v := .int .i64 4) rfl rfl rfl) ?_
  rintro w771 H
  refine zH (yM rfl) ?_
  refine zH (fa109_2 rfl) ?_
  refine zH (fa107_3 rfl) ?_
  refine xH rfl (wH H 4 rfl sz9 rfl (v := .string (bs x746)) rfl rfl rfl) ?_
  rintro w772 H
  refine zH (yM rfl) ?_
  refine zH (fa109_1 rfl) ?_
  refine xH rfl (wH H 4 rfl sz3 rfl (v := .int .i64 x769) rfl rfl rfl) ?_
  rintro w773 H
  refine (zD (zA (hK766 _ _ ?_)))
  obtain rfl := someI hF
  refine (yB (yE (zW (zW (yE (zW (post0 rfl ?_)))))))
  exact ⟨v16, v17, v18, rfl, H.pick [1, 2, 3, 4] (by decide)⟩
 have hF := zS c765 hF
 refine (zX (yT (zA (hK744 _ _ ?_))))
 refine zB ?_
 obtain ⟨x774, e775, hF⟩ := zF hF
 refine zH (xP (a := g702) (b := 1) rfl rfl e775) ?_
 refine zK (.int .i64 x774) ?_
 exact (zD (zA (meet ⟨(n708, x774), (zJ rfl zL), ⟨H.pick [0, 1, 2, 3, 4, 5] (by decide), hF⟩, Nat.lt_succ_self _⟩)))
set_option maxHeartbeats 4000000 in
theorem F_event_reader_is_w (p0 : Option EventReader) (p1 : Str) (v1 : Option Addr) (r : Bool) (hF : F_event_reader_is p0 p1 = some r) (O S : List Nat) (w : World) (H : Hd O w w S [.fz (.pt rEventReader v1 p0)]) :
  Calls Tryz.prog 121 ([.pointer v1, .string (bs p1)] : List Value).toArray w fun e w' => e = .returned (.bool r) ∧ Hd O w w' S [] := by
 unfold F_event_reader_is at hF
 refine zY 28 Tryz.func121 rfl rfl rfl ?_
 refine zC fun K3 hK3 => ?_
 refine zB ?_
 refine zI (.bool false) ?_
 refine (zD (zA (hK3 _ _ ?_)))
 obtain ⟨g75, hF, hK77⟩ := zG hF
 refine yL [4, 5, 6, 7, 8, 9, 10, 11, 12, 13, 14, 15, 16, 17, 18, 19, 20, 21, 22, 23, 24, 25, 26, 27] (fun (g : Unit) => [(4, .bool g75)]) (fun g wl => Hd O w wl S []) ?_ ?_
 ·skip
  refine zB ?_
  refine zK (.pointer v1) ?_
  obtain ⟨x78, e79, hF⟩ := zG hF
  obtain ⟨b80, o81, cs82, q83, h84, h85, h86, h87⟩ := ptf_some ((H.item (i := 0) rfl) : PtF _ _ _ _ _) e79
  obtain ⟨v88, v89, v90, rfl, h91, h92, h93⟩ := rEventReader_open h86
  have H := H.fzs [.at b80 o81 _, .sl Rp.str v88 x78.r.Phases, .sl rMoveT v89 x78.r.Moves, .sl rRule v90 x78.r.Rules] ⟨⟨h84, h85, h87⟩, h91, h92, h93, trivial⟩
  refine zH (yM (ad := ⟨b80, o81, none⟩) (congrArg Value.pointer q83)) ?_
  refine zH (fa109_2 rfl) ?_
  refine zH (fa107_0 rfl) ?_
  refine zH (zO one3 rfl (Cells.get (H.item (i := 1) rfl).2.2 (i := 2) rfl)) ?_
  obtain ⟨x98, e99, hF⟩ := zF hF
  refine zH (zM (yR (a := x78.now.kind) (b := 1) rfl rfl) e99) ?_
  obtain ⟨j100, hF, hK101⟩ := zG hF
  refine RL_cutS 8 [11, 12, 13, 14, 15, 16, 17, 18] [(18, .bool j100)] (fun wl => Hd O w wl S [.fz (.pt rEventReader v1 p0), .fz (.at b80 o81 [.string (bs x78.text), .int .i64 x78.at_, .int .i64 x78.now.kind, .int .i64 x78.now.at_, .int .i64 x78.now.n, .string (bs x78.now.text), v88, v89, v90]), .fz (.sl Rp.str v88 x78.r.Phases), .fz (.sl rMoveT v89 x78.r.Moves), .fz (.sl rRule v90 x78.r.Rules)]) ?_ ?_
  ·skip
   refine yK (b := x98) rfl rfl rfl (fun c103 => ?_) (fun c103 => ?_)
   ·have hF := zQ c103 hF
    refine yC ?_
    refine yC ?_
    refine yC ?_
    refine yC ?_
    refine yC ?_
    refine yC ?_
    refine zH (yI (v := .bool true) rfl rfl) ?_
    obtain rfl := someI hF
    exact zD (zA (meet ⟨(zJ rfl zL), H.pick [0, 1, 2, 3, 4] (by decide)⟩))
   have hF := zS c103 hF
   refine zK (.pointer v1) ?_
   obtain ⟨x104, e105, hF⟩ := zG hF
   obtain ⟨b106, o107, cs108, q109, h110, h111, h112, h113⟩ := ptf_some ((H.item (i := 0) rfl) : PtF _ _ _ _ _) e105
   obtain ⟨v114, v115, v116, rfl, h117, h118, h119⟩ := rEventReader_open h112
   have H := H.fzs [.at b106 o107 _, .sl Rp.str v114 x104.r.Phases, .sl rMoveT v115 x104.r.Moves, .sl rRule v116 x104.r.Rules] ⟨⟨h110, h111, h113⟩, h117, h118, h119, trivial⟩
   refine zH (yM (ad := ⟨b106, o107, none⟩) (congrArg Value.pointer q109)) ?_
   refine zH (fa109_2 rfl) ?_
   refine zH (fa107_0 rfl) ?_
   refine zH (zO one3 rfl (Cells.get (H.item (i := 5) rfl).2.2 (i := 2) rfl)) ?_
   obtain ⟨x124, e125, hF⟩ := zF hF
   refine zH (zM (yR (a := x104.now.kind) (b := 4) rfl rfl) e125) ?_
   refine zH (yF (v := .bool x124) rfl rfl) ?_
   obtain rfl := someI hF
   exact zD (zA (meet ⟨(zJ rfl zL), H.pick [0, 1, 2, 3, 4] (by decide)⟩))
  rintro ρ w102 H
  have hF := hK101
  refine yK (b := j100) rfl rfl rfl (fun c126 => ?_) (fun c126 => ?_)
  ·have hF := zQ c126 hF
   refine zK (.pointer v1) ?_
   obtain ⟨x127, e128, hF⟩ := zG hF
   obtain ⟨b129, o130, cs131, q132, h133, h134, h135, h136⟩ := ptf_some ((H.item (i := 0) rfl) : PtF _ _ _ _ _) e128
   obtain ⟨v137, v138, v139, rfl, h140, h141, h142⟩ := rEventReader_open h135
   have H := H.fzs [.at b129 o130 _, .sl Rp.str v137 x127.r.Phases, .sl rMoveT v138 x127.r.Moves, .sl rRule v139 x127.r.Rules] ⟨⟨h133, h134, h136⟩, h140, h141, h142, trivial⟩
   refine zH (yM (ad := ⟨b129, o130, none⟩) (congrArg Value.pointer q132)) ?_
   refine zH (fa109_2 rfl) ?_
   refine zH (fa107_3 rfl) ?_
   refine zH (zO one9 rfl (Cells.get (H.item (i := 5) rfl).2.2 (i := 5) rfl)) ?_
   refine zK (.string (bs p1)) ?_
   obtain ⟨x147, e148, hF⟩ := zF hF
   refine zH (zM (xW (s1 := x127.now.text) (s2 := p1) rfl rfl) e148) ?_
   refine zH (yI (v := .bool x147) rfl rfl) ?_
   refine zI (.bool x147) ?_
   obtain rfl := someI hF
   exact (zD (zA (meet ⟨(), (zJ rfl zL), H.pick [] (by decide)⟩)))
  have hF := zS c126 hF
  refine yC ?_
  refine yC ?_
  refine yC ?_
  refine yC ?_
  refine yC ?_
  refine yC ?_
  refine yC ?_
  refine zH (yF (v := .bool false) rfl rfl) ?_
  refine zI (.bool false) ?_
  obtain rfl := someI hF
  exact (zD (zA (meet ⟨(), (zJ rfl zL), H.pick [] (by decide)⟩)))
 rintro _ ρ w76 H
 have hF := hK77
 obtain rfl := someI hF
 refine (yB (post1 (v1 := .bool g75) rfl rfl ?_))
 exact ⟨rfl, H.pick [] (by decide)⟩
set_option maxHeartbeats 4000000 in
theorem F_event_reader_take_w (p0 : EventReader) (p1 : Int) (b1 : Nat) (v2 : Value) (v3 : Value) (v4 : Value) (r : EventToken × EventReader) (hF : F_event_reader_take p0 p1 = some r) (O S : List Nat) (w : World) (H : Hd O w w S [.own Rp.str v2 9 p0.r.Phases, .own rMoveT v3 122 p0.r.Moves, .own rRule v4 95 p0.r.Rules, .blk b1 [.string (bs p0.text), .int .i64 p0.at_, .int .i64 p0.now.kind, .int .i64 p0.now.at_, .int .i64 p0.now.n, .string (bs p0.now.text), v2, v3, v4] 109, .fz (.gi 4)]) :
  Calls Tryz.prog 177 ([.pointer (some ⟨b1, 0, none⟩), .int .i64 p1] : List Value).toArray w fun e w' => ∃ u10 u11 u12, e = .returned (.agg [.int .i64 r.1.kind, .int .i64 r.1.at_, .int .i64 r.1.n, .string (bs r.1.text)].toArray) ∧ Hd O w w' S [.own Rp.str u10 9 r.2.r.Phases, .own rMoveT u11 122 r.2.r.Moves, .own rRule u12 95 r.2.r.Rules, .blk b1 [.string (bs r.2.text), .int .i64 r.2.at_, .int .i64 r.2.now.kind, .int .i64 r.2.now.at_, .int .i64 r.2.now.n, .string (bs r.2.now.text), u10, u11, u12] 109] := by
 unfold F_event_reader_take at hF
 refine zY 22 Tryz.func177 rfl rfl rfl ?_
 refine zC fun K13 hK13 => ?_
 refine zB ?_
 refine yZ rfl rfl (xN zero107 H) ?_
 rintro _ w16 ⟨b14, rfl, H⟩
 refine (zD (zA (hK13 _ _ ?_)))
 refine zC fun K21 hK21 => ?_
 refine zC fun K22 hK22 => ?_
 refine zB ?_
 refine zK (.pointer (some ⟨b1, 0, none⟩)) ?_
 refine zH (yM rfl) ?_
 refine zH (fa109_2 rfl) ?_
 refine zH (fa107_0 rfl) ?_
 refine zH (zO one3 rfl (Cells.get (Blk.cells (H.item (i := 3) rfl)) (i := 2) rfl)) ?_
 refine zK (.int .i64 p1) ?_
 obtain ⟨x23, e24, hF⟩ := zF hF
 refine zH (zM (Do_neq (a := p0.now.kind) (b := p1) rfl rfl) e24) ?_
 refine (zD (zA (hK22 _ _ ?_)))
 obtain ⟨c25, hF⟩ := xZ hF
 refine WP_ifF c25 ?_
 refine (zX (zA (hK21 _ _ ?_)))
 refine zC fun K26 hK26 => ?_
 refine zB ?_
 refine zK (.pointer (some ⟨b1, 0, none⟩)) ?_
 refine zH (yM rfl) ?_
 refine zH (fa109_2 rfl) ?_
 refine zH (yN (yJ (cs := [.int .i64 p0.now.kind, .int .i64 p0.now.at_, .int .i64 p0.now.n, .string (bs p0.now.text)]) agg107 rfl sz107 rfl (Cells.drop (Blk.cells (H.item (i := 3) rfl)) 2 4)) rfl) ?_
 refine yZ rfl rfl (xN zero107 H) ?_
 rintro _ w29 ⟨b27, rfl, H⟩
 refine xH rfl (xC (vs := [.int .i64 p0.now.kind, .int .i64 p0.now.at_, .int .i64 p0.now.n, .string (bs p0.now.text)]) H 6 rfl sz107 rfl rfl rfl ⟨rfl, rfl, rfl, rfl, trivial⟩ rfl) ?_
 rintro w30 H
 refine (zD (zA (hK26 _ _ ?_)))
 refine zC fun K31 hK31 => ?_
 refine zB ?_
 refine zK (.pointer (some ⟨b1, 0, none⟩)) ?_
 obtain ⟨x32, e33, hF⟩ := zG hF
 refine zZ rfl rfl (zT en120 rfl) (F_event_reader_advance_w p0 b1 v2 v3 v4 _ e33 _ _ _ (H.enter [0, 1, 2, 3] [4] (by decide) rfl)) ?_
 rintro _ w40 ⟨v34, v35, v36, rfl, G41⟩
 have H : Hd O _ w40 _ [.fz (.gi 4), .blk b14 [.int .i64 0, .int .i64 0, .int .i64 0, .string (bs [])] 107, .blk b27 [.int .i64 p0.now.kind, .int .i64 p0.now.at_, .int .i64 p0.now.n, .string (bs p0.now.text)] 107, .own Rp.str v34 9 x32.r.Phases, .own rMoveT v35 122 x32.r.Moves, .own rRule v36 95 x32.r.Rules, .blk b1 [.string (bs x32.text), .int .i64 x32.at_, .int .i64 x32.now.kind, .int .i64 x32.now.at_, .int .i64 x32.now.n, .string (bs x32.now.text), v34, v35, v36] 109] := H.back [0, 1, 2, 3] [4] rfl G41
 refine ⟨_, rfl, ?_⟩
 refine (zD (zA (hK31 _ _ ?_)))
 refine zC fun K42 hK42 => ?_
 refine zB ?_
 refine zH (yN (yJ (cs := [.int .i64 p0.now.kind, .int .i64 p0.now.at_, .int .i64 p0.now.n, .string (bs p0.now.text)]) agg107 rfl sz107 rfl (Blk.cells (H.item (i := 2) rfl))) rfl) ?_
 refine xH rfl (xC (vs := [.int .i64 p0.now.kind, .int .i64 p0.now.at_, .int .i64 p0.now.n, .string (bs p0.now.text)]) H 1 rfl sz107 rfl rfl rfl ⟨rfl, rfl, rfl, rfl, trivial⟩ rfl) ?_
 rintro w43 H
 refine (zD (zA (hK42 _ _ ?_)))
 obtain rfl := someI hF
 refine (yB (postc  rfl rfl (xA agg107 sz107 rfl (Blk.cells (H.item (i := 1) rfl))) ?_))
 exact ⟨v34, v35, v36, rfl, H.pick [3, 4, 5, 6] (by decide)⟩
set_option maxHeartbeats 4000000 in
theorem F_event_reader_name_w (p0 : EventReader) (b1 : Nat) (v2 : Value) (v3 : Value) (v4 : Value) (r : Str × EventReader) (hF : F_event_reader_name p0 = some r) (O S : List Nat) (w : World) (H : Hd O w w S [.own Rp.str v2 9 p0.r.Phases, .own rMoveT v3 122 p0.r.Moves, .own rRule v4 95 p0.r.Rules, .blk b1 [.string (bs p0.text), .int .i64 p0.at_, .int .i64 p0.now.kind, .int .i64 p0.now.at_, .int .i64 p0.now.n, .string (bs p0.now.text), v2, v3, v4] 109, .fz (.gi 4)]) :
  Calls Tryz.prog 122 ([.pointer (some ⟨b1, 0, none⟩)] : List Value).toArray w fun e w' => ∃ u10 u11 u12, e = .returned (.string (bs r.1)) ∧ Hd O w w' S [.own Rp.str u10 9 r.2.r.Phases, .own rMoveT u11 122 r.2.r.Moves, .own rRule u12 95 r.2.r.Rules, .blk b1 [.string (bs r.2.text), .int .i64 r.2.at_, .int .i64 r.2.now.kind, .int .i64 r.2.now.at_, .int .i64 r.2.now.n, .string (bs r.2.now.text), u10, u11, u12] 109] := by
 unfold F_event_reader_name at hF
 refine zY 6 Tryz.func122 rfl rfl rfl ?_
 refine zC fun K13 hK13 => ?_
 refine zB ?_
 refine zI (.string (bs [])) ?_
 refine (zD (zA (hK13 _ _ ?_)))
 refine zC fun K14 hK14 => ?_
 refine zB ?_
 refine zK (.pointer (some ⟨b1, 0, none⟩)) ?_
 obtain ⟨⟨x15, x16⟩, e17, hF⟩ := zG hF
 refine zZ rfl rfl (zT en177 rfl) (F_event_reader_take_w p0 2 b1 v2 v3 v4 _ e17 _ _ _ (H.enter [0, 1, 2, 3] [4] (by decide) rfl)) ?_
 rintro _ w24 ⟨v18, v19, v20, rfl, G25⟩
 have H : Hd O _ w24 _ [.fz (.gi 4), .own Rp.str v18 9 x16.r.Phases, .own rMoveT v19 122 x16.r.Moves, .own rRule v20 95 x16.r.Rules, .blk b1 [.string (bs x16.text), .int .i64 x16.at_, .int .i64 x16.now.kind, .int .i64 x16.now.at_, .int .i64 x16.now.n, .string (bs x16.now.text), v18, v19, v20] 109] := H.back [0, 1, 2, 3] [4] rfl G25
 refine ⟨_, rfl, ?_⟩
 refine zH (Do_field1 (v := .string (bs x15.text)) fo107_3 one9 rfl rfl) ?_
 refine zI (.string (bs x15.text)) ?_
 refine (zD (zA (hK14 _ _ ?_)))
 obtain rfl := someI hF
 refine (yB (post1 (v1 := .string (bs x15.text)) rfl rfl ?_))
 exact ⟨v18, v19, v20, rfl, H.pick [1, 2, 3, 4] (by decide)⟩
set_option maxHeartbeats 4000000 in
theorem F_event_reader_must_w (p0 : EventReader) (p1 : Str) (b1 : Nat) (v2 : Value) (v3 : Value) (v4 : Value) (r : EventReader) (hF : F_event_reader_must p0 p1 = some r) (O S : List Nat) (w : World) (H : Hd O w w S [.own Rp.str v2 9 p0.r.Phases, .own rMoveT v3 122 p0.r.Moves, .own rRule v4 95 p0.r.Rules, .blk b1 [.string (bs p0.text), .int .i64 p0.at_, .int .i64 p0.now.kind, .int .i64 p0.now.at_, .int .i64 p0.now.n, .string (bs p0.now.text), v2, v3, v4] 109, .fz (.gi 4)]) :
  Calls Tryz.prog 123 ([.pointer (some ⟨b1, 0, none⟩), .string (bs p1)] : List Value).toArray w fun e w' => ∃ u10 u11 u12, e = .returned (.tuple #[]) ∧ Hd O w w' S [.own Rp.str u10 9 r.r.Phases, .own rMoveT u11 122 r.r.Moves, .own rRule u12 95 r.r.Rules, .blk b1 [.string (bs r.text), .int .i64 r.at_, .int .i64 r.now.kind, .int .i64 r.now.at_, .int .i64 r.now.n, .string (bs r.now.text), u10, u11, u12] 109] := by
 unfold F_event_reader_must at hF
 refine zY 12 Tryz.func123 rfl rfl rfl ?_
 refine zC fun K23 hK23 => ?_
 refine zC fun K24 hK24 => ?_
 refine zB ?_
 refine zK (.pointer (some ⟨b1, 0, none⟩)) ?_
 refine zK (.string (bs p1)) ?_
 have H25 := H
 have H := H.freezeB (i := 3) rfl
 have H := H.freeze (i := 0) rfl
 have H := H.freeze (i := 1) rfl
 have H := H.freeze (i := 2) rfl
 have H := H.fz (.pt rEventReader (some ⟨b1, 0, none⟩) (some p0)) ⟨_, _, _, rfl, (H.item (i := 3) rfl).1, (H.item (i := 3) rfl).2.1, (rEventReader_mk (x := p0) (H.item (i := 0) rfl) (H.item (i := 1) rfl) (H.item (i := 2) rfl)), (H.item (i := 3) rfl).2.2⟩
 obtain ⟨x27, e28, hF⟩ := zG hF
 refine zZ rfl rfl (zT en121 rfl) (F_event_reader_is_w (some p0) p1 (some ⟨b1, 0, none⟩) _ e28 _ _ _ (H.enter [] [5] (by decide) rfl)) ?_
 rintro _ w29 ⟨rfl, G30⟩
 have H := H25.step (G30.only : Only [] _ _)
 refine ⟨_, rfl, ?_⟩
 obtain ⟨x31, e32, hF⟩ := zF hF
 refine zH (zM (wJ (p := x27) rfl) e32) ?_
 refine (zD (zA (hK24 _ _ ?_)))
 obtain ⟨c33, hF⟩ := xZ hF
 refine WP_ifF c33 ?_
 refine (zX (zA (hK23 _ _ ?_)))
 refine zB ?_
 refine zK (.pointer (some ⟨b1, 0, none⟩)) ?_
 obtain ⟨x34, e35, hF⟩ := zG hF
 refine zZ rfl rfl (zT en120 rfl) (F_event_reader_advance_w p0 b1 v2 v3 v4 _ e35 _ _ _ (H.enter [0, 1, 2, 3] [4] (by decide) rfl)) ?_
 rintro _ w42 ⟨v36, v37, v38, rfl, G43⟩
 have H : Hd O _ w42 _ [.fz (.gi 4), .own Rp.str v36 9 x34.r.Phases, .own rMoveT v37 122 x34.r.Moves, .own rRule v38 95 x34.r.Rules, .blk b1 [.string (bs x34.text), .int .i64 x34.at_, .int .i64 x34.now.kind, .int .i64 x34.now.at_, .int .i64 x34.now.n, .string (bs x34.now.text), v36, v37, v38] 109] := H.back [0, 1, 2, 3] [4] rfl G43
 refine ⟨_, rfl, ?_⟩
 obtain rfl := someI hF
 refine (zD (post0n rfl ?_))
 exact ⟨v36, v37, v38, rfl, H.pick [1, 2, 3, 4] (by decide)⟩
abbrev S_event_reader_cond (f : EventReader → Int → Option (Cond × EventReader)) : Prop := ∀ (p0 : EventReader) (p1 : Int) (b1 : Nat) (v2 : Value) (v3 : Value) (v4 : Value) (r : Cond × EventReader) (_ : f p0 p1 = some r) (O S : List Nat) (w : World) (_ : Hd O w w S [.own Rp.str v2 9 p0.r.Phases, .own rMoveT v3 122 p0.r.Moves, .own rRule v4 95 p0.r.Rules, .blk b1 [.string (bs p0.text), .int .i64 p0.at_, .int .i64 p0.now.kind, .int .i64 p0.now.at_, .int .i64 p0.now.n, .string (bs p0.now.text), v2, v3, v4] 109, .fz (.at 0 0 ((Fl.arr 7 Fl.str).f zU)), .fz (.gi 4)]),
  Calls Tryz.prog 124 ([.pointer (some ⟨b1, 0, none⟩), .int .i64 p1] : List Value).toArray w fun e w' => ∃ u11 u12 u13 u14, e = .returned (.agg [.int .i64 r.1.Kind, .string (bs r.1.Name), .string (bs r.1.Other), .int .i64 r.1.Op, .int .i64 r.1.N, .int .i64 r.1.Frames, u11].toArray) ∧ Hd O w w' S [.fz (.sl rCond u11 r.1.Kids), .own Rp.str u12 9 r.2.r.Phases, .own rMoveT u13 122 r.2.r.Moves, .own rRule u14 95 r.2.r.Rules, .blk b1 [.string (bs r.2.text), .int .i64 r.2.at_, .int .i64 r.2.now.kind, .int .i64 r.2.now.at_, .int .i64 r.2.now.n, .string (bs r.2.now.text), u12, u13, u14] 109]
set_option maxHeartbeats 4000000 in
theorem F_event_reader_begins_w (p0 : Option EventReader) (v1 : Option Addr) (r : Bool) (hF : F_event_reader_begins p0 = some r) (O S : List Nat) (w : World) (H : Hd O w w S [.fz (.pt rEventReader v1 p0)]) :
  Calls Tryz.prog 216 ([.pointer v1] : List Value).toArray w fun e w' => e = .returned (.bool r) ∧ Hd O w w' S [] := by
 unfold F_event_reader_begins at hF
 refine zY 21 Tryz.func216 rfl rfl rfl ?_
 refine zC fun K3 hK3 => ?_
 refine zB ?_
 refine zI (.bool false) ?_
 refine (zD (zA (hK3 _ _ ?_)))
 refine zC fun K65 hK65 => ?_
 refine zC fun K66 hK66 => ?_
 refine zB ?_
 refine zK (.pointer v1) ?_
 obtain ⟨x67, e68, hF⟩ := zG hF
 obtain ⟨b69, o70, cs71, q72, h73, h74, h75, h76⟩ := ptf_some ((H.item (i := 0) rfl) : PtF _ _ _ _ _) e68
 obtain ⟨v77, v78, v79, rfl, h80, h81, h82⟩ := rEventReader_open h75
 have H := H.fzs [.at b69 o70 _, .sl Rp.str v77 x67.r.Phases, .sl rMoveT v78 x67.r.Moves, .sl rRule v79 x67.r.Rules] ⟨⟨h73, h74, h76⟩, h80, h81, h82, trivial⟩
 refine zH (yM (ad := ⟨b69, o70, none⟩) (congrArg Value.pointer q72)) ?_
 refine zH (fa109_2 rfl) ?_
 refine zH (fa107_0 rfl) ?_
 refine zH (zO one3 rfl (Cells.get (H.item (i := 1) rfl).2.2 (i := 2) rfl)) ?_
 refine (zD (zA (hK66 _ _ ?_)))
 refine yG ?_
 refine zC fun K87 hK87 => ?_
 refine zB ?_
 obtain ⟨x88, e89, hF⟩ := zF hF
 refine zH (zM (yR (a := x67.now.kind) (b := 2) rfl rfl) e89) ?_
 refine zI (.bool x88) ?_
 refine (zD (zA (hK87 _ _ ?_)))
 refine yA (b := x88) rfl (fun c90 => ?_) (fun c90 => ?_)
 ·have hF := zQ c90 hF
  refine zC fun K91 hK91 => ?_
  refine zB ?_
  refine zI (.bool true) ?_
  refine (zD (zA (hK91 _ _ ?_)))
  obtain rfl := someI hF
  refine (yB (yE (zW (post1 (v1 := .bool true) rfl rfl ?_))))
  exact ⟨rfl, H.pick [] (by decide)⟩
 have hF := zS c90 hF
 refine zC fun K92 hK92 => ?_
 refine zB ?_
 obtain ⟨x93, e94, hF⟩ := zF hF
 refine zH (zM (yR (a := x67.now.kind) (b := 1) rfl rfl) e94) ?_
 refine zI (.bool x93) ?_
 refine (zD (zA (hK92 _ _ ?_)))
 refine yA (b := x93) rfl (fun c95 => ?_) (fun c95 => ?_)
 ·have hF := zQ c95 hF
  refine zC fun K96 hK96 => ?_
  refine zB ?_
  obtain ⟨x97, e98, hF⟩ := zF hF
  subst e98
  refine yZ rfl rfl (Lx_bs (r := Rp.str) (xl := [[116, 114, 117, 101], [102, 97, 108, 115, 101], [115, 116, 101, 97, 100, 121], [112, 104, 97, 115, 101], [114, 117, 108, 101], [110, 111, 116], [102, 111, 114], [119, 105, 116, 104, 105, 110], [99, 111, 117, 110, 116], [114, 105, 115, 101, 115], [115, 105, 110, 99, 101]]) (cs := [.string (bs [116, 114, 117, 101]), .string (bs [102, 97, 108, 115, 101]), .string (bs [115, 116, 101, 97, 100, 121]), .string (bs [112, 104, 97, 115, 101]), .string (bs [114, 117, 108, 101]), .string (bs [110, 111, 116]), .string (bs [102, 111, 114]), .string (bs [119, 105, 116, 104, 105, 110]), .string (bs [99, 111, 117, 110, 116]), .string (bs [114, 105, 115, 101, 115]), .string (bs [115, 105, 110, 99, 101])]) u22 el9 (by decide) (by decide) rfl (xU (vs := [.string (bs [116, 114, 117, 101]), .string (bs [102, 97, 108, 115, 101]), .string (bs [115, 116, 101, 97, 100, 121]), .string (bs [112, 104, 97, 115, 101]), .string (bs [114, 117, 108, 101]), .string (bs [110, 111, 116]), .string (bs [102, 111, 114]), .string (bs [119, 105, 116, 104, 105, 110]), .string (bs [99, 111, 117, 110, 116]), .string (bs [114, 105, 115, 101, 115]), .string (bs [115, 105, 110, 99, 101])]) (by decide) rfl rfl ⟨rfl, rfl, rfl, rfl, rfl, rfl, rfl, rfl, rfl, rfl, rfl, trivial⟩ rfl) H ⟨[.string (bs [116, 114, 117, 101])], [.string (bs [102, 97, 108, 115, 101]), .string (bs [115, 116, 101, 97, 100, 121]), .string (bs [112, 104, 97, 115, 101]), .string (bs [114, 117, 108, 101]), .string (bs [110, 111, 116]), .string (bs [102, 111, 114]), .string (bs [119, 105, 116, 104, 105, 110]), .string (bs [99, 111, 117, 110, 116]), .string (bs [114, 105, 115, 101, 115]), .string (bs [115, 105, 110, 99, 101])], rfl, rfl, ⟨[.string (bs [102, 97, 108, 115, 101])], [.string (bs [115, 116, 101, 97, 100, 121]), .string (bs [112, 104, 97, 115, 101]), .string (bs [114, 117, 108, 101]), .string (bs [110, 111, 116]), .string (bs [102, 111, 114]), .string (bs [119, 105, 116, 104, 105, 110]), .string (bs [99, 111, 117, 110, 116]), .string (bs [114, 105, 115, 101, 115]), .string (bs [115, 105, 110, 99, 101])], rfl, rfl, ⟨[.string (bs [115, 116, 101, 97, 100, 121])], [.string (bs [112, 104, 97, 115, 101]), .string (bs [114, 117, 108, 101]), .string (bs [110, 111, 116]), .string (bs [102, 111, 114]), .string (bs [119, 105, 116, 104, 105, 110]), .string (bs [99, 111, 117, 110, 116]), .string (bs [114, 105, 115, 101, 115]), .string (bs [115, 105, 110, 99, 101])], rfl, rfl, ⟨[.string (bs [112, 104, 97, 115, 101])], [.string (bs [114, 117, 108, 101]), .string (bs [110, 111, 116]), .string (bs [102, 111, 114]), .string (bs [119, 105, 116, 104, 105, 110]), .string (bs [99, 111, 117, 110, 116]), .string (bs [114, 105, 115, 101, 115]), .string (bs [115, 105, 110, 99, 101])], rfl, rfl, ⟨[.string (bs [114, 117, 108, 101])], [.string (bs [110, 111, 116]), .string (bs [102, 111, 114]), .string (bs [119, 105, 116, 104, 105, 110]), .string (bs [99, 111, 117, 110, 116]), .string (bs [114, 105, 115, 101, 115]), .string (bs [115, 105, 110, 99, 101])], rfl, rfl, ⟨[.string (bs [110, 111, 116])], [.string (bs [102, 111, 114]), .string (bs [119, 105, 116, 104, 105, 110]), .string (bs [99, 111, 117, 110, 116]), .string (bs [114, 105, 115, 101, 115]), .string (bs [115, 105, 110, 99, 101])], rfl, rfl, ⟨[.string (bs [102, 111, 114])], [.string (bs [119, 105, 116, 104, 105, 110]), .string (bs [99, 111, 117, 110, 116]), .string (bs [114, 105, 115, 101, 115]), .string (bs [115, 105, 110, 99, 101])], rfl, rfl, ⟨[.string (bs [119, 105, 116, 104, 105, 110])], [.string (bs [99, 111, 117, 110, 116]), .string (bs [114, 105, 115, 101, 115]), .string (bs [115, 105, 110, 99, 101])], rfl, rfl, ⟨[.string (bs [99, 111, 117, 110, 116])], [.string (bs [114, 105, 115, 101, 115]), .string (bs [115, 105, 110, 99, 101])], rfl, rfl, ⟨[.string (bs [114, 105, 115, 101, 115])], [.string (bs [115, 105, 110, 99, 101])], rfl, rfl, ⟨[.string (bs [115, 105, 110, 99, 101])], [], rfl, rfl, rfl⟩⟩⟩⟩⟩⟩⟩⟩⟩⟩⟩) ?_
  rintro v100 w101 H
  refine zK (.pointer v1) ?_
  obtain ⟨x102, e103, hF⟩ := zG hF
  obtain ⟨b104, o105, cs106, q107, h108, h109, h110, h111⟩ := ptf_some ((H.item (i := 0) rfl) : PtF _ _ _ _ _) e103
  obtain ⟨v112, v113, v114, rfl, h115, h116, h117⟩ := rEventReader_open h110
  have H := H.fzs [.at b104 o105 _, .sl Rp.str v112 x102.r.Phases, .sl rMoveT v113 x102.r.Moves, .sl rRule v114 x102.r.Rules] ⟨⟨h108, h109, h111⟩, h115, h116, h117, trivial⟩
  refine zH (yM (ad := ⟨b104, o105, none⟩) (congrArg Value.pointer q107)) ?_
  refine zH (fa109_2 rfl) ?_
  refine zH (fa107_3 rfl) ?_
  refine zH (zO one9 rfl (Cells.get (H.item (i := 6) rfl).2.2 (i := 5) rfl)) ?_
  have H122 := H
  have H := H.freeze (i := 5) rfl
  obtain ⟨x123, e124, hF⟩ := zG hF
  refine zZ rfl rfl (zT en87 rfl) (F_slices_Contains___string_string__w ([[116, 114, 117, 101], [102, 97, 108, 115, 101], [115, 116, 101, 97, 100, 121], [112, 104, 97, 115, 101], [114, 117, 108, 101], [110, 111, 116], [102, 111, 114], [119, 105, 116, 104, 105, 110], [99, 111, 117, 110, 116], [114, 105, 115, 101, 115], [115, 105, 110, 99, 101]] : List Str) x102.now.text v100 _ e124 _ _ _ (H.enter [] [5] (by decide) rfl)) ?_
  rintro _ w125 ⟨rfl, G126⟩
  have H := H122.step (G126.only : Only [] _ _)
  refine ⟨_, rfl, ?_⟩
  refine zI (.bool x123) ?_
  refine (zD (zA (hK96 _ _ ?_)))
  obtain rfl := someI hF
  refine (yB (yE (zW (post1 (v1 := .bool x123) rfl rfl ?_))))
  exact ⟨rfl, H.pick [] (by decide)⟩
 have hF := zS c95 hF
 refine (zX (yT (zA (hK65 _ _ ?_))))
 refine zC fun K127 hK127 => ?_
 refine zB ?_
 refine zK (.pointer v1) ?_
 have H128 := H
 obtain ⟨x129, e130, hF⟩ := zG hF
 refine zZ rfl rfl (zT en121 rfl) (F_event_reader_is_w p0 [40] v1 _ e130 _ _ _ (H.enter [] [0] (by decide) rfl)) ?_
 rintro _ w131 ⟨rfl, G132⟩
 have H := H128.step (G132.only : Only [] _ _)
 refine ⟨_, rfl, ?_⟩
 refine zI (.bool x129) ?_
 refine (zD (zA (hK127 _ _ ?_)))
 obtain rfl := someI hF
 refine (yB (post1 (v1 := .bool x129) rfl rfl ?_))
 exact ⟨rfl, H.pick [] (by decide)⟩
set_option maxHeartbeats 4000000 in
theorem F_event_reader_number_w (p0 : EventReader) (b1 : Nat) (v2 : Value) (v3 : Value) (v4 : Value) (r : Int × EventReader) (hF : F_event_reader_number p0 = some r) (O S : List Nat) (w : World) (H : Hd O w w S [.own Rp.str v2 9 p0.r.Phases, .own rMoveT v3 122 p0.r.Moves, .own rRule v4 95 p0.r.Rules, .blk b1 [.string (bs p0.text), .int .i64 p0.at_, .int .i64 p0.now.kind, .int .i64 p0.now.at_, .int .i64 p0.now.n, .string (bs p0.now.text), v2, v3, v4] 109, .fz (.gi 4)]) :
  Calls Tryz.prog 219 ([.pointer (some ⟨b1, 0, none⟩)] : List Value).toArray w fun e w' => ∃ u10 u11 u12, e = .returned (.int .i64 r.1) ∧ Hd O w w' S [.own Rp.str u10 9 r.2.r.Phases, .own rMoveT u11 122 r.2.r.Moves, .own rRule u12 95 r.2.r.Rules, .blk b1 [.string (bs r.2.text), .int .i64 r.2.at_, .int .i64 r.2.now.kind, .int .i64 r.2.now.at_, .int .i64 r.2.now.n, .string (bs r.2.now.text), u10, u11, u12] 109] := by
 unfold F_event_reader_number at hF
 refine zY 6 Tryz.func219 rfl rfl rfl ?_
 refine zC fun K13 hK13 => ?_
 refine zB ?_
 refine zI (.int .i64 0) ?_
 refine (zD (zA (hK13 _ _ ?_)))
 refine zC fun K14 hK14 => ?_
 refine zB ?_
 refine zK (.pointer (some ⟨b1, 0, none⟩)) ?_
 obtain ⟨⟨x15, x16⟩, e17, hF⟩ := zG hF
 refine zZ rfl rfl (zT en177 rfl) (F_event_reader_take_w p0 3 b1 v2 v3 v4 _ e17 _ _ _ (H.enter [0, 1, 2, 3] [4] (by decide) rfl)) ?_
 rintro _ w24 ⟨v18, v19, v20, rfl, G25⟩
 have H : Hd O _ w24 _ [.fz (.gi 4), .own Rp.str v18 9 x16.r.Phases, .own rMoveT v19 122 x16.r.Moves, .own rRule v20 95 x16.r.Rules, .blk b1 [.string (bs x16.text), .int .i64 x16.at_, .int .i64 x16.now.kind, .int .i64 x16.now.at_, .int .i64 x16.now.n, .string (bs x16.now.text), v18, v19, v20] 109] := H.back [0, 1, 2, 3] [4] rfl G25
 refine ⟨_, rfl, ?_⟩
 refine zH (Do_field1 (v := .int .i64 x15.n) fo107_2 one3 rfl rfl) ?_
 refine zI (.int .i64 x15.n) ?_
 refine (zD (zA (hK14 _ _ ?_)))
 obtain rfl := someI hF
 refine (yB (post1 (v1 := .int .i64 x15.n) rfl rfl ?_))
 exact ⟨v18, v19, v20, rfl, H.pick [1, 2, 3, 4] (by decide)⟩
set_option maxHeartbeats 4000000 in
theorem F_event_reader_comparison_w (p0 : EventReader) (b1 : Nat) (v2 : Value) (v3 : Value) (v4 : Value) (r : Cond × EventReader) (hF : F_event_reader_comparison p0 = some r) (O S : List Nat) (w : World) (H : Hd O w w S [.own Rp.str v2 9 p0.r.Phases, .own rMoveT v3 122 p0.r.Moves, .own rRule v4 95 p0.r.Rules, .blk b1 [.string (bs p0.text), .int .i64 p0.at_, .int .i64 p0.now.kind, .int .i64 p0.now.at_, .int .i64 p0.now.n, .string (bs p0.now.text), v2, v3, v4] 109, .fz (.at 0 0 ((Fl.arr 7 Fl.str).f zU)), .fz (.gi 4)]) :
  Calls Tryz.prog 217 ([.pointer (some ⟨b1, 0, none⟩)] : List Value).toArray w fun e w' => ∃ u11 u12 u13 u14, e = .returned (.agg [.int .i64 r.1.Kind, .string (bs r.1.Name), .string (bs r.1.Other), .int .i64 r.1.Op, .int .i64 r.1.N, .int .i64 r.1.Frames, u11].toArray) ∧ Hd O w w' S [.fz (.sl rCond u11 r.1.Kids), .own Rp.str u12 9 r.2.r.Phases, .own rMoveT u13 122 r.2.r.Moves, .own rRule u14 95 r.2.r.Rules, .blk b1 [.string (bs r.2.text), .int .i64 r.2.at_, .int .i64 r.2.now.kind, .int .i64 r.2.now.at_, .int .i64 r.2.now.n, .string (bs r.2.now.text), u12, u13, u14] 109] := by
 unfold F_event_reader_comparison at hF
 refine zY 45 Tryz.func217 rfl rfl rfl ?_
 refine zC fun K15 hK15 => ?_
 refine zB ?_
 refine yZ rfl rfl (xN zero70 H) ?_
 rintro _ w18 ⟨b16, rfl, H⟩
 refine (zD (zA (hK15 _ _ ?_)))
 refine zC fun K19 hK19 => ?_
 refine zB ?_
 refine zK (.pointer (some ⟨b1, 0, none⟩)) ?_
 obtain ⟨⟨x20, x21⟩, e22, hF⟩ := zG hF
 refine zZ rfl rfl (zT en122 rfl) (F_event_reader_name_w p0 b1 v2 v3 v4 _ e22 _ _ _ (H.enter [0, 1, 2, 3] [5] (by decide) rfl)) ?_
 rintro _ w29 ⟨v23, v24, v25, rfl, G30⟩
 have H : Hd O _ w29 _ [.fz (.at 0 0 ((Fl.arr 7 Fl.str).f zU)), .fz (.gi 4), .blk b16 [.int .i64 0, .string (bs []), .string (bs []), .int .i64 0, .int .i64 0, .int .i64 0, .slice none 0 0] 70, .own Rp.str v23 9 x21.r.Phases, .own rMoveT v24 122 x21.r.Moves, .own rRule v25 95 x21.r.Rules, .blk b1 [.string (bs x21.text), .int .i64 x21.at_, .int .i64 x21.now.kind, .int .i64 x21.now.at_, .int .i64 x21.now.n, .string (bs x21.now.text), v23, v24, v25] 109] := H.back [0, 1, 2, 3] [5] rfl G30
 refine ⟨_, rfl, ?_⟩
 refine zH (Do_build (cs := [.int .i64 3, .string (bs x20), .string (bs []), .int .i64 0, .int .i64 0, .int .i64 0, .slice none 0 0]) (bt70_0_1 _ _)) ?_
 refine yZ rfl rfl (xN zero70 H) ?_
 rintro _ w33 ⟨b31, rfl, H⟩
 refine xH rfl (xC (vs := [.int .i64 3, .string (bs x20), .string (bs []), .int .i64 0, .int .i64 0, .int .i64 0, .slice none 0 0]) H 7 rfl sz70 rfl rfl rfl ⟨rfl, rfl, rfl, rfl, rfl, rfl, rfl, trivial⟩ rfl) ?_
 rintro w34 H
 refine (zD (zA (hK19 _ _ ?_)))
 refine zC fun K35 hK35 => ?_
 have H36 := H
 have H := H.rebase
 have H37 := H
 refine WP_mix0 H [0, 1, 2, 3, 4, 5, 6, 7, 8] [.pure, .pure, .pure, .pure, .pure, .read, .read, .pure, .eff] mixed (by kernel_rfl) (by kernel_rfl) (by kernel_rfl) rfl ?_
 refine Mx.XL_exP rfl rfl rfl (Lx_sliceAA (e := Fl.str) (X := zU) (r := Rp.str) (fun _ _ _ _ => Iff.rfl) rfl u209 sz9 (H.item (i := 0) rfl).1 (H.item (i := 0) rfl).2.1 (H.item (i := 0) rfl).2.2 rfl (by decide)) ?_
 rintro v38 h39
 have H := H.fz (.sl Rp.str v38 zU.l) h39
 refine Mx.yD rfl rfl rfl (fun w' hw' => xK (v := .pointer (some ⟨b1, 0, none⟩)) rfl) ?_
 refine Mx.yD rfl rfl rfl (fun w' hw' => yM rfl) ?_
 refine Mx.yD rfl rfl rfl (fun w' hw' => fa109_2 rfl) ?_
 refine Mx.yD rfl rfl rfl (fun w' hw' => fa107_3 rfl) ?_
 refine Mx.xO oS rfl rfl rfl (fun w' hw' => zO one9 rfl (Cells.get (Blk.cells ((H.sees hw').item (i := 6) rfl)) (i := 5) rfl)) ?_
 have H41 := H
 obtain ⟨x42, e43, hF⟩ := zG hF
 refine Mx.XL_call oS rfl rfl rfl (v := .int .i64 x42) (fun w' hw' => zT en136 rfl) (fun w' hw' => call_read (F_slices_Index___string_string__w zU.l x21.now.text v38 _ e43 _ _ _ ((H.sees hw').enter [] [8] (by decide) rfl))) ?_
 have H := H41
 refine Mx.yD rfl rfl rfl (fun w' hw' => fa70_3 rfl) ?_
 refine Mx.XL_exU oS rfl rfl (fun w' hw' => wH (H.sees hw') 7 rfl sz3 rfl (v := .int .i64 x42) rfl rfl rfl) ?_
 rintro w' w44 hw' H
 refine ⟨H.only, ?_⟩
 refine Mx.XL_nil fun w45 hS => ?_
 have H := H.sees hS
 have H := H36.rejoin H
 refine (zA (hK35 _ _ ?_))
 refine zC fun K58 hK58 => ?_
 refine zC fun K64 hK64 => ?_
 refine zB ?_
 refine zK (.pointer (some ⟨b1, 0, none⟩)) ?_
 refine zH (yM rfl) ?_
 refine zH (fa109_2 rfl) ?_
 refine zH (fa107_0 rfl) ?_
 refine zH (zO one3 rfl (Cells.get (Blk.cells (H.item (i := 6) rfl)) (i := 2) rfl)) ?_
 obtain ⟨x65, e66, hF⟩ := zF hF
 refine zH (zM (Do_neq (a := x21.now.kind) (b := 4) rfl rfl) e66) ?_
 obtain ⟨c67, hF⟩ := xZ hF
 refine RL_sp false c67 ?_
 refine zH (fa70_3 rfl) ?_
 refine zH (zO one3 rfl (Cells.get (Blk.cells (H.item (i := 7) rfl)) (i := 3) rfl)) ?_
 obtain ⟨x68, e69, hF⟩ := zF hF
 refine zH (zM (xI (a := x42) (b := 1) rfl rfl) e69) ?_
 refine zH (yF (v := .bool x68) rfl rfl) ?_
 refine (zD (zA (hK64 _ _ ?_)))
 obtain ⟨c70, hF⟩ := xZ hF
 refine WP_ifF c70 ?_
 refine (zX (zA (hK58 _ _ ?_)))
 refine zC fun K71 hK71 => ?_
 refine zB ?_
 refine zK (.pointer (some ⟨b1, 0, none⟩)) ?_
 obtain ⟨x72, e73, hF⟩ := zG hF
 refine zZ rfl rfl (zT en120 rfl) (F_event_reader_advance_w x21 b1 v23 v24 v25 _ e73 _ _ _ (H.enter [3, 4, 5, 6] [1] (by decide) rfl)) ?_
 rintro _ w80 ⟨v74, v75, v76, rfl, G81⟩
 have H : Hd O _ w80 _ [.fz (.at 0 0 ((Fl.arr 7 Fl.str).f zU)), .fz (.gi 4), .blk b16 [.int .i64 0, .string (bs []), .string (bs []), .int .i64 0, .int .i64 0, .int .i64 0, .slice none 0 0] 70, .blk b31 [.int .i64 3, .string (bs x20), .string (bs []), .int .i64 x42, .int .i64 0, .int .i64 0, .slice none 0 0] 70, .fz (.sl Rp.str v38 zU.l), .own Rp.str v74 9 x72.r.Phases, .own rMoveT v75 122 x72.r.Moves, .own rRule v76 95 x72.r.Rules, .blk b1 [.string (bs x72.text), .int .i64 x72.at_, .int .i64 x72.now.kind, .int .i64 x72.now.at_, .int .i64 x72.now.n, .string (bs x72.now.text), v74, v75, v76] 109] := H.back [3, 4, 5, 6] [1] rfl G81
 refine ⟨_, rfl, ?_⟩
 refine (zD (zA (hK71 _ _ ?_)))
 refine zC fun K86 hK86 => ?_
 refine zC fun K87 hK87 => ?_
 refine zB ?_
 refine zK (.pointer (some ⟨b1, 0, none⟩)) ?_
 refine zH (yM rfl) ?_
 refine zH (fa109_2 rfl) ?_
 refine zH (fa107_0 rfl) ?_
 refine zH (zO one3 rfl (Cells.get (Blk.cells (H.item (i := 8) rfl)) (i := 2) rfl)) ?_
 obtain ⟨x88, e89, hF⟩ := zF hF
 refine zH (zM (yR (a := x72.now.kind) (b := 2) rfl rfl) e89) ?_
 refine (zD (zA (hK87 _ _ ?_)))
 obtain ⟨c90, hF⟩ := xZ hF
 refine WP_ifF c90 ?_
 refine (zX (zA (hK86 _ _ ?_)))
 refine zC fun K91 hK91 => ?_
 refine zB ?_
 refine zK (.pointer (some ⟨b1, 0, none⟩)) ?_
 obtain ⟨⟨x92, x93⟩, e94, hF⟩ := zG hF
 refine zZ rfl rfl (zT en219 rfl) (F_event_reader_number_w x72 b1 v74 v75 v76 _ e94 _ _ _ (H.enter [5, 6, 7, 8] [1] (by decide) rfl)) ?_
 rintro _ w101 ⟨v95, v96, v97, rfl, G102⟩
 have H : Hd O _ w101 _ [.fz (.at 0 0 ((Fl.arr 7 Fl.str).f zU)), .fz (.gi 4), .blk b16 [.int .i64 0, .string (bs []), .string (bs []), .int .i64 0, .int .i64 0, .int .i64 0, .slice none 0 0] 70, .blk b31 [.int .i64 3, .string (bs x20), .string (bs []), .int .i64 x42, .int .i64 0, .int .i64 0, .slice none 0 0] 70, .fz (.sl Rp.str v38 zU.l), .own Rp.str v95 9 x93.r.Phases, .own rMoveT v96 122 x93.r.Moves, .own rRule v97 95 x93.r.Rules, .blk b1 [.string (bs x93.text), .int .i64 x93.at_, .int .i64 x93.now.kind, .int .i64 x93.now.at_, .int .i64 x93.now.n, .string (bs x93.now.text), v95, v96, v97] 109] := H.back [5, 6, 7, 8] [1] rfl G102
 refine ⟨_, rfl, ?_⟩
 refine zH (fa70_4 rfl) ?_
 refine xH rfl (wH H 3 rfl sz3 rfl (v := .int .i64 x92) rfl rfl rfl) ?_
 rintro w103 H
 refine (zD (zA (hK91 _ _ ?_)))
 refine zC fun K104 hK104 => ?_
 refine zB ?_
 refine zH (yN (yJ (cs := [.int .i64 3, .string (bs x20), .string (bs []), .int .i64 x42, .int .i64 x92, .int .i64 0, .slice none 0 0]) agg70 rfl sz70 rfl (Blk.cells (H.item (i := 3) rfl))) rfl) ?_
 refine xH rfl (xC (vs := [.int .i64 3, .string (bs x20), .string (bs []), .int .i64 x42, .int .i64 x92, .int .i64 0, .slice none 0 0]) H 2 rfl sz70 rfl rfl rfl ⟨rfl, rfl, rfl, rfl, rfl, rfl, rfl, trivial⟩ rfl) ?_
 rintro w105 H
 refine (zD (zA (hK104 _ _ ?_)))
 have H := H.fz (.sl rCond (.slice none 0 0) []) SlF.nil
 obtain rfl := someI hF
 refine (yB (postc  rfl rfl (xA agg70 sz70 rfl (Blk.cells (H.item (i := 2) rfl))) ?_))
 exact ⟨.slice none 0 0, v95, v96, v97, rfl, H.pick [9, 5, 6, 7, 8] (by decide)⟩
abbrev S_event_reader_part (f : EventReader → Int → Option (Cond × EventReader)) : Prop := ∀ (p0 : EventReader) (p1 : Int) (b1 : Nat) (v2 : Value) (v3 : Value) (v4 : Value) (r : Cond × EventReader) (_ : f p0 p1 = some r) (O S : List Nat) (w : World) (_ : Hd O w w S [.own Rp.str v2 9 p0.r.Phases, .own rMoveT v3 122 p0.r.Moves, .own rRule v4 95 p0.r.Rules, .blk b1 [.string (bs p0.text), .int .i64 p0.at_, .int .i64 p0.now.kind, .int .i64 p0.now.at_, .int .i64 p0.now.n, .string (bs p0.now.text), v2, v3, v4] 109, .fz (.at 0 0 ((Fl.arr 7 Fl.str).f zU)), .fz (.gi 4)]),
  Calls Tryz.prog 181 ([.pointer (some ⟨b1, 0, none⟩), .int .i64 p1] : List Value).toArray w fun e w' => ∃ u11 u12 u13 u14, e = .returned (.agg [.int .i64 r.1.Kind, .string (bs r.1.Name), .string (bs r.1.Other), .int .i64 r.1.Op, .int .i64 r.1.N, .int .i64 r.1.Frames, u11].toArray) ∧ Hd O w w' S [.fz (.sl rCond u11 r.1.Kids), .own Rp.str u12 9 r.2.r.Phases, .own rMoveT u13 122 r.2.r.Moves, .own rRule u14 95 r.2.r.Rules, .blk b1 [.string (bs r.2.text), .int .i64 r.2.at_, .int .i64 r.2.now.kind, .int .i64 r.2.now.at_, .int .i64 r.2.now.n, .string (bs r.2.now.text), u12, u13, u14] 109]
set_option maxHeartbeats 4000000 in
theorem F_event_reader_part_1_pdd_w (rfA : EventReader → Int → Option (Cond × EventReader)) (rhA : S_event_reader_part rfA) (p0 : Int) (c0p : EventReader) (c1 : Int) (b1 : Nat) (b3 : Nat) (v4 : Value) (v5 : Value) (v6 : Value) (b11 : Nat) (r : (List Cond) × EventReader) (hF : F_event_reader_part_1_pdd rfA p0 c0p c1 = some r) (O S : List Nat) (w : World) (H : Hd O w w S [.own Rp.str v4 9 c0p.r.Phases, .own rMoveT v5 122 c0p.r.Moves, .own rRule v6 95 c0p.r.Rules, .blk b3 [.string (bs c0p.text), .int .i64 c0p.at_, .int .i64 c0p.now.kind, .int .i64 c0p.now.at_, .int .i64 c0p.now.n, .string (bs c0p.now.text), v4, v5, v6] 109, .blk b1 [.pointer (some ⟨b3, 0, none⟩)] 105, .blk b11 [.int .i64 c1] 3, .fz (.at 0 0 ((Fl.arr 7 Fl.str).f zU)), .fz (.gi 4)]) :
  Calls Tryz.prog 218 ([.int .i64 p0, .pointer (some ⟨b1, 0, none⟩), .pointer (some ⟨b11, 0, none⟩)] : List Value).toArray w fun e w' => ∃ u15 u16 u17 u18, e = .returned (u15) ∧ Hd O w w' S [.own rCond u15 70 r.1, .own Rp.str u16 9 r.2.r.Phases, .own rMoveT u17 122 r.2.r.Moves, .own rRule u18 95 r.2.r.Rules, .blk b3 [.string (bs r.2.text), .int .i64 r.2.at_, .int .i64 r.2.now.kind, .int .i64 r.2.now.at_, .int .i64 r.2.now.n, .string (bs r.2.now.text), u16, u17, u18] 109, .blk b1 [.pointer (some ⟨b3, 0, none⟩)] 105, .blk b11 [.int .i64 c1] 3] := by
 unfold F_event_reader_part_1_pdd at hF
 refine zY 18 Tryz.func218 rfl rfl rfl ?_
 refine zC fun K19 hK19 => ?_
 refine zB ?_
 refine zI (.slice none 0 0) ?_
 refine (zD (zA (hK19 _ _ ?_)))
 refine zC fun K20 hK20 => ?_
 refine zB ?_
 refine zI (.slice none 0 0) ?_
 refine (zD (zA (hK20 _ _ ?_)))
 obtain ⟨j184, hF, hK183⟩ := zG hF
 refine yL [5, 6, 7, 8, 9, 10, 11, 12, 13, 14, 15, 16] (fun (g : Value × Value × Value × Value) => [(5, g.1)]) (fun g wl => Hd O w wl S [.own rCond g.1 70 j184.1, .blk b3 [.string (bs j184.2.1), .int .i64 j184.2.2.1, .int .i64 j184.2.2.2.1, .int .i64 j184.2.2.2.2.1, .int .i64 j184.2.2.2.2.2.1, .string (bs j184.2.2.2.2.2.2.1), g.2.1, g.2.2.1, g.2.2.2] 109, .own Rp.str g.2.1 9 j184.2.2.2.2.2.2.2.1, .own rMoveT g.2.2.1 122 j184.2.2.2.2.2.2.2.2.1, .own rRule g.2.2.2 95 j184.2.2.2.2.2.2.2.2.2, .blk b1 [.pointer (some ⟨b3, 0, none⟩)] 105, .blk b11 [.int .i64 c1] 3, .fz (.at 0 0 ((Fl.arr 7 Fl.str).f zU)), .fz (.gi 4)]) ?_ ?_
 ·skip
  refine zC fun K185 hK185 => ?_
  refine zB ?_
  refine zK (.int .i64 p0) ?_
  refine zK (.int .i64 0) ?_
  refine (zD (zA (hK185 _ _ ?_)))
  refine yG ?_
  have H := own_nil H rCond 70
  unfold F_event_reader_part_1_pdd_L1 at hF
  obtain ⟨B341, n342, eB343, hF⟩ := yS hF
  refine xE [5, 7, 8, 9, 10, 11, 12, 13, 14, 15, 16] (fun (g : Nat × (List Cond) × Int × Str × Int × Int × Int × Int × Str × (List Str) × (List MoveT) × (List Rule) × Value × Value × Value × Value) => [(5, g.2.2.2.2.2.2.2.2.2.2.2.2.1), (7, .int .i64 g.2.2.1)]) (fun g wl => Hd O w wl S [.own rCond g.2.2.2.2.2.2.2.2.2.2.2.2.1 70 g.2.1, .blk b3 [.string (bs g.2.2.2.1), .int .i64 g.2.2.2.2.1, .int .i64 g.2.2.2.2.2.1, .int .i64 g.2.2.2.2.2.2.1, .int .i64 g.2.2.2.2.2.2.2.1, .string (bs g.2.2.2.2.2.2.2.2.1), g.2.2.2.2.2.2.2.2.2.2.2.2.2.1, g.2.2.2.2.2.2.2.2.2.2.2.2.2.2.1, g.2.2.2.2.2.2.2.2.2.2.2.2.2.2.2] 109, .own Rp.str g.2.2.2.2.2.2.2.2.2.2.2.2.2.1 9 g.2.2.2.2.2.2.2.2.2.1, .own rMoveT g.2.2.2.2.2.2.2.2.2.2.2.2.2.2.1 122 g.2.2.2.2.2.2.2.2.2.2.1, .own rRule g.2.2.2.2.2.2.2.2.2.2.2.2.2.2.2 95 g.2.2.2.2.2.2.2.2.2.2.2.1, .blk b1 [.pointer (some ⟨b3, 0, none⟩)] 105, .blk b11 [.int .i64 c1] 3, .fz (.at 0 0 ((Fl.arr 7 Fl.str).f zU)), .fz (.gi 4)] ∧ loopN B341 g.1 (g.2.1, g.2.2.1, g.2.2.2.1, g.2.2.2.2.1, g.2.2.2.2.2.1, g.2.2.2.2.2.2.1, g.2.2.2.2.2.2.2.1, g.2.2.2.2.2.2.2.2.1, g.2.2.2.2.2.2.2.2.2.1, g.2.2.2.2.2.2.2.2.2.2.1, g.2.2.2.2.2.2.2.2.2.2.2.1) = some j184) (fun g => g.1) (n342, [], 0, c0p.text, c0p.at_, c0p.now.kind, c0p.now.at_, c0p.now.n, c0p.now.text, c0p.r.Phases, c0p.r.Moves, c0p.r.Rules, .slice none 0 0, v4, v5, v6) (zJ rfl (zJ rfl zL)) ⟨H.pick [8, 3, 0, 1, 2, 4, 5, 6, 7] (by decide), hF⟩ ?_
  clear H hF
  rintro ⟨n342, g322, g324, g325, g326, g327, g328, g329, g330, g332, g335, g338, v323, v333, v336, v339⟩ ρ w345 ⟨H, hF⟩
  obtain ⟨n346, rfl, hF⟩ := yX hF
  have hF := yY eB343 hF
  refine zC fun K347 hK347 => ?_
  refine zB ?_
  obtain ⟨x348, e349, hF⟩ := zF hF
  refine zH (zM (xI (a := g324) (b := p0) rfl rfl) e349) ?_
  refine (zD (zA (hK347 _ _ ?_)))
  refine zC fun K351 hK351 => ?_
  refine yA (b := x348) rfl (fun c352 => ?_) (fun c352 => ?_)
  ·have hF := zQ c352 hF
   refine (zX (zA (hK351 _ _ ?_)))
   refine zC fun K377 hK377 => ?_
   refine yG ?_
   refine zB ?_
   refine zK v323 ?_
   refine zH (zO one105 rfl (Cells.get (Blk.cells (H.item (i := 5) rfl)) (i := 0) rfl)) ?_
   refine zH (zO one3 rfl (Cells.get (Blk.cells (H.item (i := 6) rfl)) (i := 0) rfl)) ?_
   obtain ⟨x378, e379, hF⟩ := zF hF
   refine zH (xP (a := c1) (b := 1) rfl rfl e379) ?_
   obtain ⟨⟨x380, x381⟩, e382, hF⟩ := zG hF
   refine zZ rfl rfl (zT en181 rfl) (rhA (EventReader.mk g325 g326 (EventToken.mk g327 g328 g329 g330) (Rules.mk g332 g335 g338)) x378 b3 v333 v336 v339 _ e382 _ _ _ (H.enter [2, 3, 4, 1] [7, 8] (by decide) rfl)) ?_
   rintro _ w391 ⟨v383, v385, v386, v387, rfl, G392⟩
   have H : Hd O _ w391 _ [.own rCond v323 70 g322, .blk b1 [.pointer (some ⟨b3, 0, none⟩)] 105, .blk b11 [.int .i64 c1] 3, .fz (.at 0 0 ((Fl.arr 7 Fl.str).f zU)), .fz (.gi 4), .fz (.sl rCond v383 x380.Kids), .own Rp.str v385 9 x381.r.Phases, .own rMoveT v386 122 x381.r.Moves, .own rRule v387 95 x381.r.Rules, .blk b3 [.string (bs x381.text), .int .i64 x381.at_, .int .i64 x381.now.kind, .int .i64 x381.now.at_, .int .i64 x381.now.n, .string (bs x381.now.text), v385, v386, v387] 109] := H.back [2, 3, 4, 1] [7, 8] rfl G392
   refine ⟨_, rfl, ?_⟩
   obtain ⟨x393, e394, hF⟩ := zF hF
   subst e394
   refine yZ rfl rfl (Lx_bs (r := rCond) (xl := [x380]) (cs := [.int .i64 x380.Kind, .string (bs x380.Name), .string (bs x380.Other), .int .i64 x380.Op, .int .i64 x380.N, .int .i64 x380.Frames, v383]) u68 el70 (by decide) (by decide) rfl (xU (vs := [.agg [.int .i64 x380.Kind, .string (bs x380.Name), .string (bs x380.Other), .int .i64 x380.Op, .int .i64 x380.N, .int .i64 x380.Frames, v383].toArray]) (by decide) rfl rfl ⟨rfl, trivial⟩ rfl) H ⟨[.int .i64 x380.Kind, .string (bs x380.Name), .string (bs x380.Other), .int .i64 x380.Op, .int .i64 x380.N, .int .i64 x380.Frames, v383], [], rfl, (rCond_mk (x := x380) (H.item (i := 5) rfl)), rfl⟩) ?_
   rintro v396 w397 H
   obtain ⟨x398, e399, hF⟩ := zG hF
   refine yZ rfl rfl (Lx_app H (i := 0) rfl u68 el70 rfl rfl (Sr.of_own (H.item (i := 10) rfl)) e399) ?_
   rintro v400 w401 H
   refine zI v400 ?_
   refine (zD (yT (zA (hK377 _ _ ?_))))
   refine zB ?_
   obtain ⟨x402, e403, hF⟩ := zF hF
   refine zH (xP (a := g324) (b := 1) rfl rfl e403) ?_
   refine zK (.int .i64 x402) ?_
   exact (zD (zA (meet ⟨(n346, x398, x402, x381.text, x381.at_, x381.now.kind, x381.now.at_, x381.now.n, x381.now.text, x381.r.Phases, x381.r.Moves, x381.r.Rules, v400, v385, v386, v387), (zJ rfl (zJ rfl zL)), ⟨H.pick [0, 9, 6, 7, 8, 1, 2, 3, 4] (by decide), hF⟩, Nat.lt_succ_self _⟩)))
  have hF := zS c352 hF
  obtain rfl := someI hF
  exact (xJ (yO (yO (xB (zA (meet ⟨(v323, v333, v336, v339), (zJ rfl zL), H.pick [0, 1, 2, 3, 4, 5, 6, 7, 8] (by decide)⟩))))))
 rintro ⟨v166, v175, v178, v181⟩ ρ w182 H
 have hF := hK183
 obtain ⟨g165, g167, g168, g169, g170, g171, g172, g174, g177, g180⟩ := j184
 refine zC fun K404 hK404 => ?_
 refine zB ?_
 refine zK v166 ?_
 refine zI v166 ?_
 refine (zD (zA (hK404 _ _ ?_)))
 obtain rfl := someI hF
 refine (yB (post1 (v1 := v166) rfl rfl ?_))
 exact ⟨v166, v175, v178, v181, rfl, H.pick [0, 2, 3, 4, 1, 5, 6] (by decide)⟩
end Go.Proofs.YtckmiljbaejijaaGreatDoor.L
