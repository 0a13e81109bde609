/- Walks: what each function computes, for every argument; no condition but those that stand in the statements. -/
import Derived.Test.YtnajnkghilemhaaGreatDoorIV0
import Derived.Test.YtnajnkghilemhaaGreatDoorIV4
namespace Go.Proofs.YtnajnkghilemhaaGreatDoor.L
open Go.RowKit Go.OB Go.Lf
set_option maxHeartbeats 4000000 in
set_option maxRecDepth 100000 in
theorem F_event_reader_advance_w (p0 : EventReader) (b1 : Nat) (v2 : Value) (v3 : Value) (v4 : Value) (r : EventReader) (hF : F_event_reader_advance p0 = some r) (O S : List Nat) (w : World) (H : Hd O w w S [.own Rp.str v2 9 p0.r.Phases, .own rMoveT v3 102 p0.r.Moves, .own rRule v4 106 p0.r.Rules, .blk b1 [.string (bs p0.text), .int .i64 p0.at_, .int .i64 p0.now.kind, .int .i64 p0.now.at_, .int .i64 p0.now.n, .string (bs p0.now.text), v2, v3, v4] 88, .fz (.gi 4)]) :
  Calls Tryz.prog 87 ([.pointer (some ⟨b1, 0, none⟩)] : List Value).toArray w fun e w' => ∃ u10 u11 u12, e = .returned (.tuple #[]) ∧ Hd O w w' S [.own Rp.str u10 9 r.r.Phases, .own rMoveT u11 102 r.r.Moves, .own rRule u12 106 r.r.Rules, .blk b1 [.string (bs r.text), .int .i64 r.at_, .int .i64 r.now.kind, .int .i64 r.now.at_, .int .i64 r.now.n, .string (bs r.now.text), u10, u11, u12] 88] := by
 unfold F_event_reader_advance at hF
 refine yB 107 Tryz.func87 rfl rfl rfl ?_
 refine zC fun K13 hK13 => ?_
 refine zB ?_
 refine zM (.pointer (some ⟨b1, 0, none⟩)) ?_
 obtain ⟨x14, e15, hF⟩ := zD hF
 refine zV rfl rfl (zU en137 rfl) (F_event_reader_blanks_w p0 b1 v2 v3 v4 _ e15 _ _ _ (H.enter [0, 1, 2, 3] [] (by decide) rfl)) ?_
 rintro _ w22 ⟨v16, v17, v18, rfl, G23⟩
 have H : Hd O _ w22 _ [.fz (.gi 4), .own Rp.str v16 9 x14.r.Phases, .own rMoveT v17 102 x14.r.Moves, .own rRule v18 106 x14.r.Rules, .blk b1 [.string (bs x14.text), .int .i64 x14.at_, .int .i64 x14.now.kind, .int .i64 x14.now.at_, .int .i64 x14.now.n, .string (bs x14.now.text), v16, v17, v18] 88] := H.back [0, 1, 2, 3] [] rfl G23
 refine ⟨_, rfl, ?_⟩
 refine (zF (zA (hK13 _ _ ?_)))
 refine zC fun K24 hK24 => ?_
 refine zB ?_
 refine zM (.pointer (some ⟨b1, 0, none⟩)) ?_
 refine zH (yG rfl) ?_
 refine zH (fa88_1 rfl) ?_
 refine zH (zT one3 rfl (Cells.get (Blk.cells (H.item (i := 4) rfl)) (i := 1) rfl)) ?_
 refine zI (.int .i64 x14.at_) ?_
 refine (zF (zA (hK24 _ _ ?_)))
 refine zC fun K25 hK25 => ?_
 refine zB ?_
 refine zM (.pointer (some ⟨b1, 0, none⟩)) ?_
 refine zM (.int .i64 x14.at_) ?_
 refine zH (xH (cs := [.int .i64 0, .int .i64 x14.at_, .int .i64 0, .string (bs [])]) (bt86_0_1 _ _)) ?_
 refine zH (yG rfl) ?_
 refine zH (fa88_2 rfl) ?_
 refine yN rfl (yH (vs := [.int .i64 0, .int .i64 x14.at_, .int .i64 0, .string (bs [])]) H 4 rfl sz86 rfl rfl rfl ⟨rfl, rfl, rfl, rfl, trivial⟩ rfl) ?_
 rintro w26 H
 refine (zF (zA (hK25 _ _ ?_)))
 refine zC fun K33 hK33 => ?_
 refine zC fun K34 hK34 => ?_
 refine zB ?_
 refine zM (.int .i64 x14.at_) ?_
 refine zM (.pointer (some ⟨b1, 0, none⟩)) ?_
 refine zH (yG rfl) ?_
 refine zH (fa88_0 rfl) ?_
 refine zH (zT one9 rfl (Cells.get (Blk.cells (H.item (i := 4) rfl)) (i := 0) rfl)) ?_
 obtain ⟨x35, e36, hF⟩ := zG hF
 refine zH (yQ (Do_slen (s1 := x14.text) u9 rfl) (congrArg (Value.int .i64) e36)) ?_
 obtain ⟨x37, e38, hF⟩ := zG hF
 refine zH (zS (yP (a := x14.at_) (b := x35) rfl rfl) e38) ?_
 refine (zF (zA (hK34 _ _ ?_)))
 refine zW (b := x37) rfl (fun c39 => ?_) (fun c39 => ?_)
 ·have hF := zO c39 hF
  obtain rfl := someI hF
  refine (zZ (zY (post0 rfl ?_)))
  exact ⟨v16, v17, v18, rfl, H.pick [1, 2, 3, 4] (by decide)⟩
 have hF := zN c39 hF
 refine (yA (zA (hK33 _ _ ?_)))
 obtain ⟨g127, hF, hK129⟩ := zD hF
 refine yL [23, 24, 25, 26, 27, 28, 29, 30, 31, 32, 33, 34, 35, 36, 37, 38, 39, 40, 41, 42, 43, 44, 45, 46, 47, 48, 49, 50, 51] (fun (g : Unit) => []) (fun g wl => Hd O w wl S [.fz (.gi 4), .own Rp.str v16 9 x14.r.Phases, .own rMoveT v17 102 x14.r.Moves, .own rRule v18 106 x14.r.Rules, .blk b1 [.string (bs x14.text), .int .i64 g127, .int .i64 0, .int .i64 x14.at_, .int .i64 0, .string (bs []), v16, v17, v18] 88]) ?_ ?_
 ·skip
  refine yJ ?_
  unfold F_event_reader_advance_L1 at hF
  obtain ⟨B212, n213, eB214, hF⟩ := yY hF
  refine xK [23, 24, 25, 26, 27, 28, 29, 30, 31, 32, 33, 34, 35, 36, 37, 38, 39, 40, 41, 42, 43, 44, 45, 46, 47, 48, 49, 50, 51] (fun (g : Nat × Int) => []) (fun g wl => Hd O w wl S [.fz (.gi 4), .own Rp.str v16 9 x14.r.Phases, .own rMoveT v17 102 x14.r.Moves, .own rRule v18 106 x14.r.Rules, .blk b1 [.string (bs x14.text), .int .i64 g.2, .int .i64 0, .int .i64 x14.at_, .int .i64 0, .string (bs []), v16, v17, v18] 88] ∧ loopN B212 g.1 g.2 = some g127) (fun g => g.1) (n213, x14.at_) zL ⟨H.pick [0, 1, 2, 3, 4] (by decide), hF⟩ ?_
  clear H hF
  rintro ⟨n213, g211⟩ ρ w216 ⟨H, hF⟩
  obtain ⟨n217, rfl, hF⟩ := xE hF
  have hF := xC eB214 hF
  refine zC fun K236 hK236 => ?_
  obtain ⟨g251, hF, hK253⟩ := zD hF
  refine yL [23, 24, 25, 26, 27, 28, 29, 30, 31, 32, 33, 34, 35, 36, 37, 38, 39, 40, 41, 42, 43, 44] (fun (g : Unit) => [(44, .bool g251)]) (fun g wl => Hd O w wl S [.fz (.gi 4), .own Rp.str v16 9 x14.r.Phases, .own rMoveT v17 102 x14.r.Moves, .own rRule v18 106 x14.r.Rules, .blk b1 [.string (bs x14.text), .int .i64 g211, .int .i64 0, .int .i64 x14.at_, .int .i64 0, .string (bs []), v16, v17, v18] 88]) ?_ ?_
  ·skip
   have H254 := H
   have H := H.rebase
   have H255 := H
   refine WP_mix0 H [0, 1, 2, 3, 4, 5, 6, 7, 8, 9, 10, 11, 12, 13, 14, 15, 16, 17, 18, 19, 20, 21] [.pure, .pure, .pure, .read, .pure, .pure, .pure, .read, .pure, .pure, .pure, .pure, .pure, .pure, .read, .pure, .pure, .pure, .read, .pure, .fcall, .pure] mixed (by kernel_rfl) (by kernel_rfl) (by kernel_rfl) rfl ?_
   refine Mx.zX rfl rfl rfl (fun w' hw' => xI (v := .pointer (some ⟨b1, 0, none⟩)) rfl) ?_
   refine Mx.zX rfl rfl rfl (fun w' hw' => yG rfl) ?_
   refine Mx.zX rfl rfl rfl (fun w' hw' => fa88_1 rfl) ?_
   refine Mx.xM oS rfl rfl rfl (fun w' hw' => zT one3 rfl (Cells.get (Blk.cells ((H.sees hw').item (i := 4) rfl)) (i := 1) rfl)) ?_
   refine Mx.zX rfl rfl rfl (fun w' hw' => xI (v := .pointer (some ⟨b1, 0, none⟩)) rfl) ?_
   refine Mx.zX rfl rfl rfl (fun w' hw' => yG rfl) ?_
   refine Mx.zX rfl rfl rfl (fun w' hw' => fa88_0 rfl) ?_
   refine Mx.xM oS rfl rfl rfl (fun w' hw' => zT one9 rfl (Cells.get (Blk.cells ((H.sees hw').item (i := 4) rfl)) (i := 0) rfl)) ?_
   obtain ⟨x256, e257, hF⟩ := zG hF
   refine Mx.zX rfl rfl rfl (fun w' hw' => yQ (Do_slen (s1 := x14.text) u9 rfl) (congrArg (Value.int .i64) e257)) ?_
   obtain ⟨x258, e259, hF⟩ := zG hF
   refine Mx.zX rfl rfl rfl (fun w' hw' => zS (xZ (a := g211) (b := x256) rfl rfl) e259) ?_
   refine Mx.XL_splitb (b := x258) rfl rfl rfl rfl (fun c260 => ?_) (fun c260 => ?_)
   ·have hF := zO c260 hF
    refine Mx.zX rfl rfl rfl (fun w' hw' => xI (v := .pointer (some ⟨b1, 0, none⟩)) rfl) ?_
    refine Mx.zX rfl rfl rfl (fun w' hw' => yG rfl) ?_
    refine Mx.zX rfl rfl rfl (fun w' hw' => fa88_0 rfl) ?_
    refine Mx.xM oS rfl rfl rfl (fun w' hw' => zT one9 rfl (Cells.get (Blk.cells ((H.sees hw').item (i := 4) rfl)) (i := 0) rfl)) ?_
    refine Mx.zX rfl rfl rfl (fun w' hw' => xI (v := .pointer (some ⟨b1, 0, none⟩)) rfl) ?_
    refine Mx.zX rfl rfl rfl (fun w' hw' => yG rfl) ?_
    refine Mx.zX rfl rfl rfl (fun w' hw' => fa88_1 rfl) ?_
    refine Mx.xM oS rfl rfl rfl (fun w' hw' => zT one3 rfl (Cells.get (Blk.cells ((H.sees hw').item (i := 4) rfl)) (i := 1) rfl)) ?_
    obtain ⟨x261, e262, hF⟩ := zD hF
    refine Mx.zX rfl rfl rfl (fun w' hw' => Do_sidx (s1 := x14.text) (q := g211) u9 rfl rfl e262) ?_
    have H263 := H
    obtain ⟨x264, e265, hF⟩ := zD hF
    refine Mx.XL_fcall oS rfl rfl rfl (v := .bool x264) (fun w' hw' => zU en120 rfl) (fun w' hw' => call_read (F_event_nameByte_w x261 _ e265 _ _ _ (Hd.fresh0 w'))) ?_
    have H := H263
    refine Mx.zX rfl rfl rfl (fun w' hw' => yI (v := .bool x264) rfl rfl) ?_
    refine Mx.XL_nil fun w266 hS => ?_
    have H := H.sees hS
    have H := H254.rejoin H
    obtain rfl := someI hF
    exact (zA (meet ⟨(), (zK rfl zL), H.pick [0, 1, 2, 3, 4] (by decide)⟩))
   have hF := zN c260 hF
   refine Mx.XL_offp rfl rfl rfl ?_
   refine Mx.XL_offp rfl rfl rfl ?_
   refine Mx.XL_offp rfl rfl rfl ?_
   refine Mx.XL_offr oS rfl rfl rfl ?_
   refine Mx.XL_offp rfl rfl rfl ?_
   refine Mx.XL_offp rfl rfl rfl ?_
   refine Mx.XL_offp rfl rfl rfl ?_
   refine Mx.XL_offr oS rfl rfl rfl ?_
   refine Mx.XL_offp rfl rfl rfl ?_
   refine Mx.XL_offf oS rfl rfl rfl ?_
   refine Mx.zX rfl rfl rfl (fun w' hw' => yE (v := .bool false) rfl rfl) ?_
   refine Mx.XL_nil fun w267 hS => ?_
   have H := H.sees hS
   have H := H254.rejoin H
   obtain rfl := someI hF
   exact (zA (meet ⟨(), (zK rfl zL), H.pick [0, 1, 2, 3, 4] (by decide)⟩))
  rintro _ ρ w252 H
  have hF := hK253
  refine zW (b := g251) rfl (fun c268 => ?_) (fun c268 => ?_)
  ·have hF := zO c268 hF
   refine (yA (zA (hK236 _ _ ?_)))
   refine yJ ?_
   refine zB ?_
   refine zM (.pointer (some ⟨b1, 0, none⟩)) ?_
   refine zH (yG rfl) ?_
   refine zH (fa88_1 rfl) ?_
   refine zH (zT one3 rfl (Cells.get (Blk.cells (H.item (i := 4) rfl)) (i := 1) rfl)) ?_
   obtain ⟨x269, e270, hF⟩ := zG hF
   refine zH (wC (a := g211) (b := 1) rfl rfl e270) ?_
   refine zH (yG rfl) ?_
   refine zH (fa88_1 rfl) ?_
   refine yN rfl (xA H 4 rfl sz3 rfl (v := .int .i64 x269) rfl rfl rfl) ?_
   rintro w271 H
   exact (zF (yR (zA (meet ⟨(n217, x269), zL, ⟨H.pick [0, 1, 2, 3, 4] (by decide), hF⟩, Nat.lt_succ_self _⟩))))
  have hF := zN c268 hF
  obtain rfl := someI hF
  exact (xW (yT (yT (xG (zA (meet ⟨(), zL, H.pick [0, 1, 2, 3, 4] (by decide)⟩))))))
 rintro _ ρ w128 H
 have hF := hK129
 refine zC fun K294 hK294 => ?_
 refine zC fun K295 hK295 => ?_
 refine zB ?_
 refine zM (.pointer (some ⟨b1, 0, none⟩)) ?_
 refine zH (yG rfl) ?_
 refine zH (fa88_1 rfl) ?_
 refine zH (zT one3 rfl (Cells.get (Blk.cells (H.item (i := 4) rfl)) (i := 1) rfl)) ?_
 refine zM (.int .i64 x14.at_) ?_
 obtain ⟨x296, e297, hF⟩ := zG hF
 refine zH (zS (Do_gtr (a := g127) (b := x14.at_) rfl rfl) e297) ?_
 refine (zF (zA (hK295 _ _ ?_)))
 refine zW (b := x296) rfl (fun c298 => ?_) (fun c298 => ?_)
 ·have hF := zO c298 hF
  refine zC fun K299 hK299 => ?_
  have H300 := H
  have H := H.rebase
  have H301 := H
  refine WP_mix0 H [0, 1, 2, 3, 4, 5, 6, 7, 8, 9, 10, 11, 12, 13, 14] [.pure, .pure, .pure, .pure, .read, .pure, .pure, .pure, .pure, .read, .pure, .pure, .pure, .pure, .eff] mixed (by kernel_rfl) (by kernel_rfl) (by kernel_rfl) rfl ?_
  refine Mx.zX rfl rfl rfl (fun w' hw' => xI (v := .pointer (some ⟨b1, 0, none⟩)) rfl) ?_
  refine Mx.zX rfl rfl rfl (fun w' hw' => xI (v := .pointer (some ⟨b1, 0, none⟩)) rfl) ?_
  refine Mx.zX rfl rfl rfl (fun w' hw' => yG rfl) ?_
  refine Mx.zX rfl rfl rfl (fun w' hw' => fa88_0 rfl) ?_
  refine Mx.xM oS rfl rfl rfl (fun w' hw' => zT one9 rfl (Cells.get (Blk.cells ((H.sees hw').item (i := 4) rfl)) (i := 0) rfl)) ?_
  refine Mx.zX rfl rfl rfl (fun w' hw' => xI (v := .int .i64 x14.at_) rfl) ?_
  refine Mx.zX rfl rfl rfl (fun w' hw' => xI (v := .pointer (some ⟨b1, 0, none⟩)) rfl) ?_
  refine Mx.zX rfl rfl rfl (fun w' hw' => yG rfl) ?_
  refine Mx.zX rfl rfl rfl (fun w' hw' => fa88_1 rfl) ?_
  refine Mx.xM oS rfl rfl rfl (fun w' hw' => zT one3 rfl (Cells.get (Blk.cells ((H.sees hw').item (i := 4) rfl)) (i := 1) rfl)) ?_
  obtain ⟨x302, e303, hF⟩ := zD hF
  refine Mx.zX rfl rfl rfl (fun w' hw' => Do_cut_lh (s1 := x14.text) u9 rfl rfl rfl e303) ?_
  refine Mx.zX rfl rfl rfl (fun w' hw' => yG rfl) ?_
  refine Mx.zX rfl rfl rfl (fun w' hw' => fa88_2 rfl) ?_
  refine Mx.zX rfl rfl rfl (fun w' hw' => fa86_3 rfl) ?_
  refine Mx.XL_exU oS rfl rfl (fun w' hw' => xA (H.sees hw') 4 rfl sz9 rfl (v := .string (bs x302)) rfl rfl rfl) ?_
  rintro w' w304 hw' H
  refine ⟨H.only, ?_⟩
  refine Mx.XL_nil fun w305 hS => ?_
  have H := H.sees hS
  have H := H300.rejoin H
  refine (zA (hK299 _ _ ?_))
  refine zC fun K306 hK306 => ?_
  refine zB ?_
  refine zM (.pointer (some ⟨b1, 0, none⟩)) ?_
  obtain ⟨x307, e308, hF⟩ := zD hF
  refine zV rfl rfl (zU en138 rfl) (F_event_reader_run_w (EventReader.mk x14.text g127 (EventToken.mk 0 x14.at_ 0 x302) x14.r) b1 v16 v17 v18 _ e308 _ _ _ (H.enter [1, 2, 3, 4] [0] (by decide) rfl)) ?_
  rintro _ w315 ⟨v309, v310, v311, rfl, G316⟩
  have H : Hd O _ w315 _ [.fz (.gi 4), .own Rp.str v309 9 x307.r.Phases, .own rMoveT v310 102 x307.r.Moves, .own rRule v311 106 x307.r.Rules, .blk b1 [.string (bs x307.text), .int .i64 x307.at_, .int .i64 x307.now.kind, .int .i64 x307.now.at_, .int .i64 x307.now.n, .string (bs x307.now.text), v309, v310, v311] 88] := H.back [1, 2, 3, 4] [0] rfl G316
  refine ⟨_, rfl, ?_⟩
  refine (zF (zA (hK306 _ _ ?_)))
  obtain rfl := someI hF
  refine (zZ (zY (post0 rfl ?_)))
  exact ⟨v309, v310, v311, rfl, H.pick [1, 2, 3, 4] (by decide)⟩
 have hF := zN c298 hF
 refine (yA (zA (hK294 _ _ ?_)))
 obtain ⟨k470, ek471, hF⟩ := joinO_some hF
 refine yL [4, 74, 75, 76, 77, 78, 79, 80, 81, 82, 83, 84, 85, 86, 87, 88, 89, 90, 91, 92, 93, 94, 95, 96, 97, 98, 99, 100, 101, 102, 103, 104] (fun (g : Unit) => []) (fun g wl => Hd O w wl S [.fz (.gi 4), .own Rp.str v16 9 x14.r.Phases, .own rMoveT v17 102 x14.r.Moves, .own rRule v18 106 x14.r.Rules, .blk b1 [.string (bs x14.text), .int .i64 g127, .int .i64 0, .int .i64 x14.at_, .int .i64 0, .string (bs []), v16, v17, v18] 88] ∧ k470 () = some r) ?_ ?_
 ·skip
  refine zC fun K472 hK472 => ?_
  refine zB ?_
  obtain ⟨x473, e474, hF⟩ := zG hF
  subst e474
  refine yX rfl rfl (Lx_bs (r := Rp.str) (xl := [[60, 61], [33, 61], [62, 61], [60], [61], [62], [40], [41]]) (cs := [.string (bs [60, 61]), .string (bs [33, 61]), .string (bs [62, 61]), .string (bs [60]), .string (bs [61]), .string (bs [62]), .string (bs [40]), .string (bs [41])]) u22 el9 (by decide) (by decide) rfl (xJ (vs := [.string (bs [60, 61]), .string (bs [33, 61]), .string (bs [62, 61]), .string (bs [60]), .string (bs [61]), .string (bs [62]), .string (bs [40]), .string (bs [41])]) (by decide) rfl rfl ⟨rfl, rfl, rfl, rfl, rfl, rfl, rfl, rfl, trivial⟩ rfl) H ⟨[.string (bs [60, 61])], [.string (bs [33, 61]), .string (bs [62, 61]), .string (bs [60]), .string (bs [61]), .string (bs [62]), .string (bs [40]), .string (bs [41])], rfl, rfl, ⟨[.string (bs [33, 61])], [.string (bs [62, 61]), .string (bs [60]), .string (bs [61]), .string (bs [62]), .string (bs [40]), .string (bs [41])], rfl, rfl, ⟨[.string (bs [62, 61])], [.string (bs [60]), .string (bs [61]), .string (bs [62]), .string (bs [40]), .string (bs [41])], rfl, rfl, ⟨[.string (bs [60])], [.string (bs [61]), .string (bs [62]), .string (bs [40]), .string (bs [41])], rfl, rfl, ⟨[.string (bs [61])], [.string (bs [62]), .string (bs [40]), .string (bs [41])], rfl, rfl, ⟨[.string (bs [62])], [.string (bs [40]), .string (bs [41])], rfl, rfl, ⟨[.string (bs [40])], [.string (bs [41])], rfl, rfl, ⟨[.string (bs [41])], [], rfl, rfl, rfl⟩⟩⟩⟩⟩⟩⟩⟩) ?_
  rintro v476 w477 H
  obtain ⟨x478, e479, hF⟩ := zG hF
  obtain ⟨a480, c481, q482⟩ := Sr.len (Sr.of_own (H.item (i := 5) rfl))
  refine zH (yQ (Do_len u22 q482) (congrArg (Value.int .i64) e479)) ?_
  refine zM (.int .i64 0) ?_
  refine (zF (zA (hK472 _ _ ?_)))
  refine yJ ?_
  unfold F_event_reader_advance_L2 at hF
  obtain ⟨B619, n620, eB621, hF⟩ := yY hF
  refine xK [4, 76, 77, 78, 79, 80, 81, 82, 83, 84, 85, 86, 87, 88, 89, 90, 91, 92, 93, 94, 95, 96, 97, 98, 99, 100, 101, 102, 103, 104] (fun (g : Nat × Int) => [(76, .int .i64 g.2)]) (fun g wl => Hd O w wl S [.fz (.gi 4), .own Rp.str v16 9 x14.r.Phases, .own rMoveT v17 102 x14.r.Moves, .own rRule v18 106 x14.r.Rules, .blk b1 [.string (bs x14.text), .int .i64 g127, .int .i64 0, .int .i64 x14.at_, .int .i64 0, .string (bs []), v16, v17, v18] 88, .own Rp.str v476 9 ([[60, 61], [33, 61], [62, 61], [60], [61], [62], [40], [41]] : List Str)] ∧ loopN B619 g.1 g.2 = some r) (fun g => g.1) (n620, 0) (zK rfl zL) ⟨H.pick [0, 1, 2, 3, 4, 5] (by decide), hF⟩ ?_
  clear H hF
  rintro ⟨n620, g618⟩ ρ w623 ⟨H, hF⟩
  obtain ⟨n624, rfl, hF⟩ := xE hF
  have hF := xC eB621 hF
  refine zC fun K625 hK625 => ?_
  refine zB ?_
  obtain ⟨x626, e627, hF⟩ := zG hF
  refine zH (zS (xZ (a := g618) (b := x478) rfl rfl) e627) ?_
  refine (zF (zA (hK625 _ _ ?_)))
  refine zC fun K629 hK629 => ?_
  refine zW (b := x626) rfl (fun c630 => ?_) (fun c630 => ?_)
  ·have hF := zO c630 hF
   refine (yA (zA (hK629 _ _ ?_)))
   refine zC fun K660 hK660 => ?_
   refine yJ ?_
   refine zC fun K661 hK661 => ?_
   refine zB ?_
   obtain ⟨x662, e663, hF⟩ := zD hF
   obtain ⟨b664, c666, cs667, q668, h671, h672⟩ := own_at (H.item (i := 5) rfl) e663
   obtain rfl : cs667 = [.string (bs x662)] := h671
   refine zH (Do_idx u22 sz9 q668 rfl (yU e663).1 (yU e663).2.1 rfl rfl) ?_
   refine zH (zT one9 rfl (Cells.get h672 (i := 0) rfl)) ?_
   refine zI (.string (bs x662)) ?_
   refine (zF (zA (hK661 _ _ ?_)))
   refine zC fun K673 hK673 => ?_
   refine zB ?_
   refine zM (.pointer (some ⟨b1, 0, none⟩)) ?_
   refine zH (yG rfl) ?_
   refine zH (fa88_0 rfl) ?_
   refine zH (zT one9 rfl (Cells.get (Blk.cells (H.item (i := 4) rfl)) (i := 0) rfl)) ?_
   refine zM (.int .i64 x14.at_) ?_
   obtain ⟨x674, e675, hF⟩ := zD hF
   refine zH (Do_cut_l (s1 := x14.text) u9 rfl rfl e675) ?_
   refine zM (.string (bs x662)) ?_
   have H676 := H
   obtain ⟨x677, e678, hF⟩ := zD hF
   refine zV rfl rfl (zU en139 rfl) (F_strings_HasPrefix_w x674 x662 _ e678 _ _ _ (H.enter [] [] (by decide) rfl)) ?_
   rintro _ w679 ⟨rfl, G680⟩
   have H := H676.step (G680.only : Only [] _ _)
   refine ⟨_, rfl, ?_⟩
   refine (zF (zA (hK673 _ _ ?_)))
   refine zW (b := x677) rfl (fun c681 => ?_) (fun c681 => ?_)
   ·have hF := zO c681 hF
    refine zC fun K682 hK682 => ?_
    refine zB ?_
    refine zM (.pointer (some ⟨b1, 0, none⟩)) ?_
    refine zM (.pointer (some ⟨b1, 0, none⟩)) ?_
    refine zM (.pointer (some ⟨b1, 0, none⟩)) ?_
    refine zM (.string (bs x662)) ?_
    refine zM (.int .i64 x14.at_) ?_
    refine zM (.string (bs x662)) ?_
    obtain ⟨x683, e684, hF⟩ := zG hF
    refine zH (yQ (Do_slen (s1 := x662) u9 rfl) (congrArg (Value.int .i64) e684)) ?_
    obtain ⟨x685, e686, hF⟩ := zG hF
    refine zH (wC (a := x14.at_) (b := x683) rfl rfl e686) ?_
    refine zH (yG rfl) ?_
    refine zH (fa88_2 rfl) ?_
    refine zH (fa86_0 rfl) ?_
    refine yN rfl (xA H 4 rfl sz3 rfl (v := .int .i64 4) rfl rfl rfl) ?_
    rintro w687 H
    refine zH (yG rfl) ?_
    refine zH (fa88_2 rfl) ?_
    refine zH (fa86_3 rfl) ?_
    refine yN rfl (xA H 4 rfl sz9 rfl (v := .string (bs x662)) rfl rfl rfl) ?_
    rintro w688 H
    refine zH (yG rfl) ?_
    refine zH (fa88_1 rfl) ?_
    refine yN rfl (xA H 4 rfl sz3 rfl (v := .int .i64 x685) rfl rfl rfl) ?_
    rintro w689 H
    refine (zF (zA (hK682 _ _ ?_)))
    obtain rfl := someI hF
    refine (zZ (yF (zY (zY (yF (zY (post0 rfl ?_)))))))
    exact ⟨v16, v17, v18, rfl, H.pick [1, 2, 3, 4] (by decide)⟩
   have hF := zN c681 hF
   refine (yA (yR (zA (hK660 _ _ ?_))))
   refine zB ?_
   obtain ⟨x690, e691, hF⟩ := zG hF
   refine zH (wC (a := g618) (b := 1) rfl rfl e691) ?_
   refine zM (.int .i64 x690) ?_
   exact (zF (zA (meet ⟨(n624, x690), (zK rfl zL), ⟨H.pick [0, 1, 2, 3, 4, 5] (by decide), hF⟩, Nat.lt_succ_self _⟩)))
  have hF := zN c630 hF
  exact (xW (yT (yT (xG (zA (meet ⟨(), zL, ⟨H.pick [0, 1, 2, 3, 4] (by decide), hF⟩⟩))))))
 rintro _ ρ w469 ⟨H, hF⟩
 have hF := join_body ek471 hF
 refine zB ?_
 refine zM (.pointer (some ⟨b1, 0, none⟩)) ?_
 have H692 := H
 have H := H.freezeB (i := 4) rfl
 have H := H.freeze (i := 1) rfl
 have H := H.freeze (i := 2) rfl
 have H := H.freeze (i := 3) rfl
 have H := H.fz (.pt rEventReader (some ⟨b1, 0, none⟩) (some (EventReader.mk x14.text g127 (EventToken.mk 0 x14.at_ 0 []) x14.r))) ⟨_, _, _, rfl, (H.item (i := 4) rfl).1, (H.item (i := 4) rfl).2.1, (xN (x := EventReader.mk x14.text g127 (EventToken.mk 0 x14.at_ 0 []) x14.r) (H.item (i := 1) rfl) (H.item (i := 2) rfl) (H.item (i := 3) rfl)), (H.item (i := 4) rfl).2.2⟩
 obtain ⟨_, e694, hF⟩ := zD hF
 refine zV rfl rfl (zU en92 rfl) (F_event_reader_fail_w (some (EventReader.mk x14.text g127 (EventToken.mk 0 x14.at_ 0 []) x14.r)) 6 (some ⟨b1, 0, none⟩) _ e694 _ _ _ (H.enter [] [5] (by decide) rfl)) ?_
 rintro _ w695 ⟨rfl, G696⟩
 have H := H692.step (G696.only : Only [] _ _)
 refine ⟨_, rfl, ?_⟩
 obtain rfl := someI hF
 refine (zF (post0n rfl ?_))
 exact ⟨v16, v17, v18, rfl, H.pick [1, 2, 3, 4] (by decide)⟩
set_option maxHeartbeats 4000000 in
theorem F_event_reader_is_w (p0 : Option EventReader) (p1 : Str) (v1 : Option Addr) (r : Bool) (hF : F_event_reader_is p0 p1 = some r) (O S : List Nat) (w : World) (H : Hd O w w S [.fz (.pt rEventReader v1 p0)]) :
  Calls Tryz.prog 88 ([.pointer v1, .string (bs p1)] : List Value).toArray w fun e w' => e = .returned (.bool r) ∧ Hd O w w' S [] := by
 unfold F_event_reader_is at hF
 refine yB 28 Tryz.func88 rfl rfl rfl ?_
 refine zC fun K3 hK3 => ?_
 refine zB ?_
 refine zI (.bool false) ?_
 refine (zF (zA (hK3 _ _ ?_)))
 obtain ⟨g75, hF, hK77⟩ := zD hF
 refine yL [4, 5, 6, 7, 8, 9, 10, 11, 12, 13, 14, 15, 16, 17, 18, 19, 20, 21, 22, 23, 24, 25, 26, 27] (fun (g : Unit) => [(4, .bool g75)]) (fun g wl => Hd O w wl S []) ?_ ?_
 ·skip
  refine zB ?_
  refine zM (.pointer v1) ?_
  obtain ⟨x78, e79, hF⟩ := zD hF
  obtain ⟨b80, o81, cs82, q83, h84, h85, h86, h87⟩ := ptf_some ((H.item (i := 0) rfl) : PtF _ _ _ _ _) e79
  obtain ⟨v88, v89, v90, rfl, h91, h92, h93⟩ := rEventReader_open h86
  have H := H.fzs [.at b80 o81 _, .sl Rp.str v88 x78.r.Phases, .sl rMoveT v89 x78.r.Moves, .sl rRule v90 x78.r.Rules] ⟨⟨h84, h85, h87⟩, h91, h92, h93, trivial⟩
  refine zH (yG (ad := ⟨b80, o81, none⟩) (congrArg Value.pointer q83)) ?_
  refine zH (fa88_2 rfl) ?_
  refine zH (fa86_0 rfl) ?_
  refine zH (zT one3 rfl (Cells.get (H.item (i := 1) rfl).2.2 (i := 2) rfl)) ?_
  obtain ⟨x98, e99, hF⟩ := zG hF
  refine zH (zS (yP (a := x78.now.kind) (b := 1) rfl rfl) e99) ?_
  obtain ⟨j100, hF, hK101⟩ := zD hF
  refine RL_cutS 8 [11, 12, 13, 14, 15, 16, 17, 18] [(18, .bool j100)] (fun wl => Hd O w wl S [.fz (.pt rEventReader v1 p0), .fz (.at b80 o81 [.string (bs x78.text), .int .i64 x78.at_, .int .i64 x78.now.kind, .int .i64 x78.now.at_, .int .i64 x78.now.n, .string (bs x78.now.text), v88, v89, v90]), .fz (.sl Rp.str v88 x78.r.Phases), .fz (.sl rMoveT v89 x78.r.Moves), .fz (.sl rRule v90 x78.r.Rules)]) ?_ ?_
  ·skip
   refine yK (b := x98) rfl rfl rfl (fun c103 => ?_) (fun c103 => ?_)
   ·have hF := zO c103 hF
    refine yD ?_
    refine yD ?_
    refine yD ?_
    refine yD ?_
    refine yD ?_
    refine yD ?_
    refine zH (yI (v := .bool true) rfl rfl) ?_
    obtain rfl := someI hF
    exact zF (zA (meet ⟨(zK rfl zL), H.pick [0, 1, 2, 3, 4] (by decide)⟩))
   have hF := zN c103 hF
   refine zM (.pointer v1) ?_
   obtain ⟨x104, e105, hF⟩ := zD hF
   obtain ⟨b106, o107, cs108, q109, h110, h111, h112, h113⟩ := ptf_some ((H.item (i := 0) rfl) : PtF _ _ _ _ _) e105
   obtain ⟨v114, v115, v116, rfl, h117, h118, h119⟩ := rEventReader_open h112
   have H := H.fzs [.at b106 o107 _, .sl Rp.str v114 x104.r.Phases, .sl rMoveT v115 x104.r.Moves, .sl rRule v116 x104.r.Rules] ⟨⟨h110, h111, h113⟩, h117, h118, h119, trivial⟩
   refine zH (yG (ad := ⟨b106, o107, none⟩) (congrArg Value.pointer q109)) ?_
   refine zH (fa88_2 rfl) ?_
   refine zH (fa86_0 rfl) ?_
   refine zH (zT one3 rfl (Cells.get (H.item (i := 5) rfl).2.2 (i := 2) rfl)) ?_
   obtain ⟨x124, e125, hF⟩ := zG hF
   refine zH (zS (yP (a := x104.now.kind) (b := 4) rfl rfl) e125) ?_
   refine zH (yE (v := .bool x124) rfl rfl) ?_
   obtain rfl := someI hF
   exact zF (zA (meet ⟨(zK rfl zL), H.pick [0, 1, 2, 3, 4] (by decide)⟩))
  rintro ρ w102 H
  have hF := hK101
  refine yK (b := j100) rfl rfl rfl (fun c126 => ?_) (fun c126 => ?_)
  ·have hF := zO c126 hF
   refine zM (.pointer v1) ?_
   obtain ⟨x127, e128, hF⟩ := zD hF
   obtain ⟨b129, o130, cs131, q132, h133, h134, h135, h136⟩ := ptf_some ((H.item (i := 0) rfl) : PtF _ _ _ _ _) e128
   obtain ⟨v137, v138, v139, rfl, h140, h141, h142⟩ := rEventReader_open h135
   have H := H.fzs [.at b129 o130 _, .sl Rp.str v137 x127.r.Phases, .sl rMoveT v138 x127.r.Moves, .sl rRule v139 x127.r.Rules] ⟨⟨h133, h134, h136⟩, h140, h141, h142, trivial⟩
   refine zH (yG (ad := ⟨b129, o130, none⟩) (congrArg Value.pointer q132)) ?_
   refine zH (fa88_2 rfl) ?_
   refine zH (fa86_3 rfl) ?_
   refine zH (zT one9 rfl (Cells.get (H.item (i := 5) rfl).2.2 (i := 5) rfl)) ?_
   refine zM (.string (bs p1)) ?_
   obtain ⟨x147, e148, hF⟩ := zG hF
   refine zH (zS (xR (s1 := x127.now.text) (s2 := p1) rfl rfl) e148) ?_
   refine zH (yI (v := .bool x147) rfl rfl) ?_
   refine zI (.bool x147) ?_
   obtain rfl := someI hF
   exact (zF (zA (meet ⟨(), (zK rfl zL), H.pick [] (by decide)⟩)))
  have hF := zN c126 hF
  refine yD ?_
  refine yD ?_
  refine yD ?_
  refine yD ?_
  refine yD ?_
  refine yD ?_
  refine yD ?_
  refine zH (yE (v := .bool false) rfl rfl) ?_
  refine zI (.bool false) ?_
  obtain rfl := someI hF
  exact (zF (zA (meet ⟨(), (zK rfl zL), H.pick [] (by decide)⟩)))
 rintro _ ρ w76 H
 have hF := hK77
 obtain rfl := someI hF
 refine (zZ (post1 (v1 := .bool g75) rfl rfl ?_))
 exact ⟨rfl, H.pick [] (by decide)⟩
set_option maxHeartbeats 4000000 in
theorem F_event_reader_take_w (p0 : EventReader) (p1 : Int) (b1 : Nat) (v2 : Value) (v3 : Value) (v4 : Value) (r : EventToken × EventReader) (hF : F_event_reader_take p0 p1 = some r) (O S : List Nat) (w : World) (H : Hd O w w S [.own Rp.str v2 9 p0.r.Phases, .own rMoveT v3 102 p0.r.Moves, .own rRule v4 106 p0.r.Rules, .blk b1 [.string (bs p0.text), .int .i64 p0.at_, .int .i64 p0.now.kind, .int .i64 p0.now.at_, .int .i64 p0.now.n, .string (bs p0.now.text), v2, v3, v4] 88, .fz (.gi 4)]) :
  Calls Tryz.prog 140 ([.pointer (some ⟨b1, 0, none⟩), .int .i64 p1] : List Value).toArray w fun e w' => ∃ u10 u11 u12, e = .returned (.agg [.int .i64 r.1.kind, .int .i64 r.1.at_, .int .i64 r.1.n, .string (bs r.1.text)].toArray) ∧ Hd O w w' S [.own Rp.str u10 9 r.2.r.Phases, .own rMoveT u11 102 r.2.r.Moves, .own rRule u12 106 r.2.r.Rules, .blk b1 [.string (bs r.2.text), .int .i64 r.2.at_, .int .i64 r.2.now.kind, .int .i64 r.2.now.at_, .int .i64 r.2.now.n, .string (bs r.2.now.text), u10, u11, u12] 88] := by
 unfold F_event_reader_take at hF
 refine yB 22 Tryz.func140 rfl rfl rfl ?_
 refine zC fun K13 hK13 => ?_
 refine zB ?_
 refine yX rfl rfl (xB zero86 H) ?_
 rintro _ w16 ⟨b14, rfl, H⟩
 refine (zF (zA (hK13 _ _ ?_)))
 obtain ⟨j28, hF, hK27⟩ := zD hF
 refine yL [6, 7, 8, 9, 10, 11, 12, 13, 14] (fun (g : Unit) => []) (fun g wl => Hd O w wl S [.own Rp.str v2 9 p0.r.Phases, .own rMoveT v3 102 p0.r.Moves, .own rRule v4 106 p0.r.Rules, .blk b1 [.string (bs p0.text), .int .i64 p0.at_, .int .i64 p0.now.kind, .int .i64 p0.now.at_, .int .i64 p0.now.n, .string (bs p0.now.text), v2, v3, v4] 88, .fz (.gi 4), .blk b14 [.int .i64 0, .int .i64 0, .int .i64 0, .string (bs [])] 86]) ?_ ?_
 ·skip
  refine zC fun K29 hK29 => ?_
  refine zB ?_
  refine zM (.pointer (some ⟨b1, 0, none⟩)) ?_
  refine zH (yG rfl) ?_
  refine zH (fa88_2 rfl) ?_
  refine zH (fa86_0 rfl) ?_
  refine zH (zT one3 rfl (Cells.get (Blk.cells (H.item (i := 3) rfl)) (i := 2) rfl)) ?_
  refine zM (.int .i64 p1) ?_
  obtain ⟨x30, e31, hF⟩ := zG hF
  refine zH (zS (Do_neq (a := p0.now.kind) (b := p1) rfl rfl) e31) ?_
  refine (zF (zA (hK29 _ _ ?_)))
  refine zW (b := x30) rfl (fun c32 => ?_) (fun c32 => ?_)
  ·have hF := zO c32 hF
   refine zB ?_
   refine zM (.pointer (some ⟨b1, 0, none⟩)) ?_
   have H33 := H
   have H := H.freezeB (i := 3) rfl
   have H := H.freeze (i := 0) rfl
   have H := H.freeze (i := 1) rfl
   have H := H.freeze (i := 2) rfl
   have H := H.fz (.pt rEventReader (some ⟨b1, 0, none⟩) (some p0)) ⟨_, _, _, rfl, (H.item (i := 3) rfl).1, (H.item (i := 3) rfl).2.1, (xN (x := p0) (H.item (i := 0) rfl) (H.item (i := 1) rfl) (H.item (i := 2) rfl)), (H.item (i := 3) rfl).2.2⟩
   obtain ⟨_, e35, hF⟩ := zD hF
   refine zV rfl rfl (zU en92 rfl) (F_event_reader_fail_w (some p0) 6 (some ⟨b1, 0, none⟩) _ e35 _ _ _ (H.enter [] [6] (by decide) rfl)) ?_
   rintro _ w36 ⟨rfl, G37⟩
   have H := H33.step (G37.only : Only [] _ _)
   refine ⟨_, rfl, ?_⟩
   obtain rfl := someI hF
   exact (zF (zA (meet ⟨(), zL, H.pick [0, 1, 2, 3, 4, 5] (by decide)⟩)))
  have hF := zN c32 hF
  obtain rfl := someI hF
  exact (yA (zA (meet ⟨(), zL, H.pick [0, 1, 2, 3, 4, 5] (by decide)⟩)))
 rintro _ ρ w26 H
 have hF := hK27
 refine zC fun K38 hK38 => ?_
 refine zB ?_
 refine zM (.pointer (some ⟨b1, 0, none⟩)) ?_
 refine zH (yG rfl) ?_
 refine zH (fa88_2 rfl) ?_
 refine zH (yQ (yM (cs := [.int .i64 p0.now.kind, .int .i64 p0.now.at_, .int .i64 p0.now.n, .string (bs p0.now.text)]) agg86 rfl sz86 rfl (Cells.drop (Blk.cells (H.item (i := 3) rfl)) 2 4)) rfl) ?_
 refine yX rfl rfl (xB zero86 H) ?_
 rintro _ w41 ⟨b39, rfl, H⟩
 refine yN rfl (yH (vs := [.int .i64 p0.now.kind, .int .i64 p0.now.at_, .int .i64 p0.now.n, .string (bs p0.now.text)]) H 6 rfl sz86 rfl rfl rfl ⟨rfl, rfl, rfl, rfl, trivial⟩ rfl) ?_
 rintro w42 H
 refine (zF (zA (hK38 _ _ ?_)))
 refine zC fun K43 hK43 => ?_
 refine zB ?_
 refine zM (.pointer (some ⟨b1, 0, none⟩)) ?_
 obtain ⟨x44, e45, hF⟩ := zD hF
 refine zV rfl rfl (zU en87 rfl) (F_event_reader_advance_w p0 b1 v2 v3 v4 _ e45 _ _ _ (H.enter [0, 1, 2, 3] [4] (by decide) rfl)) ?_
 rintro _ w52 ⟨v46, v47, v48, rfl, G53⟩
 have H : Hd O _ w52 _ [.fz (.gi 4), .blk b14 [.int .i64 0, .int .i64 0, .int .i64 0, .string (bs [])] 86, .blk b39 [.int .i64 p0.now.kind, .int .i64 p0.now.at_, .int .i64 p0.now.n, .string (bs p0.now.text)] 86, .own Rp.str v46 9 x44.r.Phases, .own rMoveT v47 102 x44.r.Moves, .own rRule v48 106 x44.r.Rules, .blk b1 [.string (bs x44.text), .int .i64 x44.at_, .int .i64 x44.now.kind, .int .i64 x44.now.at_, .int .i64 x44.now.n, .string (bs x44.now.text), v46, v47, v48] 88] := H.back [0, 1, 2, 3] [4] rfl G53
 refine ⟨_, rfl, ?_⟩
 refine (zF (zA (hK43 _ _ ?_)))
 refine zC fun K54 hK54 => ?_
 refine zB ?_
 refine zH (yQ (yM (cs := [.int .i64 p0.now.kind, .int .i64 p0.now.at_, .int .i64 p0.now.n, .string (bs p0.now.text)]) agg86 rfl sz86 rfl (Blk.cells (H.item (i := 2) rfl))) rfl) ?_
 refine yN rfl (yH (vs := [.int .i64 p0.now.kind, .int .i64 p0.now.at_, .int .i64 p0.now.n, .string (bs p0.now.text)]) H 1 rfl sz86 rfl rfl rfl ⟨rfl, rfl, rfl, rfl, trivial⟩ rfl) ?_
 rintro w55 H
 refine (zF (zA (hK54 _ _ ?_)))
 obtain rfl := someI hF
 refine (zZ (postc  rfl rfl (yC agg86 sz86 rfl (Blk.cells (H.item (i := 1) rfl))) ?_))
 exact ⟨v46, v47, v48, rfl, H.pick [3, 4, 5, 6] (by decide)⟩
set_option maxHeartbeats 4000000 in
theorem F_event_reader_name_w (p0 : EventReader) (b1 : Nat) (v2 : Value) (v3 : Value) (v4 : Value) (r : Str × EventReader) (hF : F_event_reader_name p0 = some r) (O S : List Nat) (w : World) (H : Hd O w w S [.own Rp.str v2 9 p0.r.Phases, .own rMoveT v3 102 p0.r.Moves, .own rRule v4 106 p0.r.Rules, .blk b1 [.string (bs p0.text), .int .i64 p0.at_, .int .i64 p0.now.kind, .int .i64 p0.now.at_, .int .i64 p0.now.n, .string (bs p0.now.text), v2, v3, v4] 88, .fz (.gi 4)]) :
  Calls Tryz.prog 89 ([.pointer (some ⟨b1, 0, none⟩)] : List Value).toArray w fun e w' => ∃ u10 u11 u12, e = .returned (.string (bs r.1)) ∧ Hd O w w' S [.own Rp.str u10 9 r.2.r.Phases, .own rMoveT u11 102 r.2.r.Moves, .own rRule u12 106 r.2.r.Rules, .blk b1 [.string (bs r.2.text), .int .i64 r.2.at_, .int .i64 r.2.now.kind, .int .i64 r.2.now.at_, .int .i64 r.2.now.n, .string (bs r.2.now.text), u10, u11, u12] 88] := by
 unfold F_event_reader_name at hF
 refine yB 6 Tryz.func89 rfl rfl rfl ?_
 refine zC fun K13 hK13 => ?_
 refine zB ?_
 refine zI (.string (bs [])) ?_
 refine (zF (zA (hK13 _ _ ?_)))
 refine zC fun K14 hK14 => ?_
 refine zB ?_
 refine zM (.pointer (some ⟨b1, 0, none⟩)) ?_
 obtain ⟨⟨x15, x16⟩, e17, hF⟩ := zD hF
 refine zV rfl rfl (zU en140 rfl) (F_event_reader_take_w p0 2 b1 v2 v3 v4 _ e17 _ _ _ (H.enter [0, 1, 2, 3] [4] (by decide) rfl)) ?_
 rintro _ w24 ⟨v18, v19, v20, rfl, G25⟩
 have H : Hd O _ w24 _ [.fz (.gi 4), .own Rp.str v18 9 x16.r.Phases, .own rMoveT v19 102 x16.r.Moves, .own rRule v20 106 x16.r.Rules, .blk b1 [.string (bs x16.text), .int .i64 x16.at_, .int .i64 x16.now.kind, .int .i64 x16.now.at_, .int .i64 x16.now.n, .string (bs x16.now.text), v18, v19, v20] 88] := H.back [0, 1, 2, 3] [4] rfl G25
 refine ⟨_, rfl, ?_⟩
 refine zH (Do_field1 (v := .string (bs x15.text)) fo86_3 one9 rfl rfl) ?_
 refine zI (.string (bs x15.text)) ?_
 refine (zF (zA (hK14 _ _ ?_)))
 obtain rfl := someI hF
 refine (zZ (post1 (v1 := .string (bs x15.text)) rfl rfl ?_))
 exact ⟨v18, v19, v20, rfl, H.pick [1, 2, 3, 4] (by decide)⟩
set_option maxHeartbeats 4000000 in
theorem F_event_reader_must_w (p0 : EventReader) (p1 : Str) (b1 : Nat) (v2 : Value) (v3 : Value) (v4 : Value) (r : EventReader) (hF : F_event_reader_must p0 p1 = some r) (O S : List Nat) (w : World) (H : Hd O w w S [.own Rp.str v2 9 p0.r.Phases, .own rMoveT v3 102 p0.r.Moves, .own rRule v4 106 p0.r.Rules, .blk b1 [.string (bs p0.text), .int .i64 p0.at_, .int .i64 p0.now.kind, .int .i64 p0.now.at_, .int .i64 p0.now.n, .string (bs p0.now.text), v2, v3, v4] 88, .fz (.gi 4)]) :
  Calls Tryz.prog 90 ([.pointer (some ⟨b1, 0, none⟩), .string (bs p1)] : List Value).toArray w fun e w' => ∃ u10 u11 u12, e = .returned (.tuple #[]) ∧ Hd O w w' S [.own Rp.str u10 9 r.r.Phases, .own rMoveT u11 102 r.r.Moves, .own rRule u12 106 r.r.Rules, .blk b1 [.string (bs r.text), .int .i64 r.at_, .int .i64 r.now.kind, .int .i64 r.now.at_, .int .i64 r.now.n, .string (bs r.now.text), u10, u11, u12] 88] := by
 unfold F_event_reader_must at hF
 refine yB 12 Tryz.func90 rfl rfl rfl ?_
 obtain ⟨j30, hF, hK29⟩ := zD hF
 refine yL [4, 5, 6, 7, 8, 9] (fun (g : Unit) => []) (fun g wl => Hd O w wl S [.own Rp.str v2 9 p0.r.Phases, .own rMoveT v3 102 p0.r.Moves, .own rRule v4 106 p0.r.Rules, .blk b1 [.string (bs p0.text), .int .i64 p0.at_, .int .i64 p0.now.kind, .int .i64 p0.now.at_, .int .i64 p0.now.n, .string (bs p0.now.text), v2, v3, v4] 88, .fz (.gi 4)]) ?_ ?_
 ·skip
  refine zC fun K31 hK31 => ?_
  refine zB ?_
  refine zM (.pointer (some ⟨b1, 0, none⟩)) ?_
  refine zM (.string (bs p1)) ?_
  have H32 := H
  have H := H.freezeB (i := 3) rfl
  have H := H.freeze (i := 0) rfl
  have H := H.freeze (i := 1) rfl
  have H := H.freeze (i := 2) rfl
  have H := H.fz (.pt rEventReader (some ⟨b1, 0, none⟩) (some p0)) ⟨_, _, _, rfl, (H.item (i := 3) rfl).1, (H.item (i := 3) rfl).2.1, (xN (x := p0) (H.item (i := 0) rfl) (H.item (i := 1) rfl) (H.item (i := 2) rfl)), (H.item (i := 3) rfl).2.2⟩
  obtain ⟨x34, e35, hF⟩ := zD hF
  refine zV rfl rfl (zU en88 rfl) (F_event_reader_is_w (some p0) p1 (some ⟨b1, 0, none⟩) _ e35 _ _ _ (H.enter [] [5] (by decide) rfl)) ?_
  rintro _ w36 ⟨rfl, G37⟩
  have H := H32.step (G37.only : Only [] _ _)
  refine ⟨_, rfl, ?_⟩
  obtain ⟨x38, e39, hF⟩ := zG hF
  refine zH (zS (xY (p := x34) rfl) e39) ?_
  refine (zF (zA (hK31 _ _ ?_)))
  refine zW (b := x38) rfl (fun c40 => ?_) (fun c40 => ?_)
  ·have hF := zO c40 hF
   refine zB ?_
   refine zM (.pointer (some ⟨b1, 0, none⟩)) ?_
   have H41 := H
   have H := H.freezeB (i := 3) rfl
   have H := H.freeze (i := 0) rfl
   have H := H.freeze (i := 1) rfl
   have H := H.freeze (i := 2) rfl
   have H := H.fz (.pt rEventReader (some ⟨b1, 0, none⟩) (some p0)) ⟨_, _, _, rfl, (H.item (i := 3) rfl).1, (H.item (i := 3) rfl).2.1, (xN (x := p0) (H.item (i := 0) rfl) (H.item (i := 1) rfl) (H.item (i := 2) rfl)), (H.item (i := 3) rfl).2.2⟩
   obtain ⟨_, e43, hF⟩ := zD hF
   refine zV rfl rfl (zU en92 rfl) (F_event_reader_fail_w (some p0) 6 (some ⟨b1, 0, none⟩) _ e43 _ _ _ (H.enter [] [5] (by decide) rfl)) ?_
   rintro _ w44 ⟨rfl, G45⟩
   have H := H41.step (G45.only : Only [] _ _)
   refine ⟨_, rfl, ?_⟩
   obtain rfl := someI hF
   exact (zF (zA (meet ⟨(), zL, H.pick [0, 1, 2, 3, 4] (by decide)⟩)))
  have hF := zN c40 hF
  obtain rfl := someI hF
  exact (yA (zA (meet ⟨(), zL, H.pick [0, 1, 2, 3, 4] (by decide)⟩)))
 rintro _ ρ w28 H
 have hF := hK29
 refine zB ?_
 refine zM (.pointer (some ⟨b1, 0, none⟩)) ?_
 obtain ⟨x46, e47, hF⟩ := zD hF
 refine zV rfl rfl (zU en87 rfl) (F_event_reader_advance_w p0 b1 v2 v3 v4 _ e47 _ _ _ (H.enter [0, 1, 2, 3] [4] (by decide) rfl)) ?_
 rintro _ w54 ⟨v48, v49, v50, rfl, G55⟩
 have H : Hd O _ w54 _ [.fz (.gi 4), .own Rp.str v48 9 x46.r.Phases, .own rMoveT v49 102 x46.r.Moves, .own rRule v50 106 x46.r.Rules, .blk b1 [.string (bs x46.text), .int .i64 x46.at_, .int .i64 x46.now.kind, .int .i64 x46.now.at_, .int .i64 x46.now.n, .string (bs x46.now.text), v48, v49, v50] 88] := H.back [0, 1, 2, 3] [4] rfl G55
 refine ⟨_, rfl, ?_⟩
 obtain rfl := someI hF
 refine (zF (post0n rfl ?_))
 exact ⟨v48, v49, v50, rfl, H.pick [1, 2, 3, 4] (by decide)⟩
abbrev S_event_reader_cond (f : EventReader → Int → Option (Cond × EventReader)) : Prop := ∀ (p0 : EventReader) (p1 : Int) (b1 : Nat) (v2 : Value) (v3 : Value) (v4 : Value) (r : Cond × EventReader) (_ : f p0 p1 = some r) (O S : List Nat) (w : World) (_ : Hd O w w S [.own Rp.str v2 9 p0.r.Phases, .own rMoveT v3 102 p0.r.Moves, .own rRule v4 106 p0.r.Rules, .blk b1 [.string (bs p0.text), .int .i64 p0.at_, .int .i64 p0.now.kind, .int .i64 p0.now.at_, .int .i64 p0.now.n, .string (bs p0.now.text), v2, v3, v4] 88, .fz (.at 0 0 ((Fl.arr 7 Fl.str).f zJ)), .fz (.gi 4)]),
  Calls Tryz.prog 91 ([.pointer (some ⟨b1, 0, none⟩), .int .i64 p1] : List Value).toArray w fun e w' => ∃ u11 u12 u13 u14, e = .returned (.agg [.int .i64 r.1.Kind, .string (bs r.1.Name), .string (bs r.1.Other), .int .i64 r.1.Op, .int .i64 r.1.N, .int .i64 r.1.Frames, u11].toArray) ∧ Hd O w w' S [.fz (.sl rCond u11 r.1.Kids), .own Rp.str u12 9 r.2.r.Phases, .own rMoveT u13 102 r.2.r.Moves, .own rRule u14 106 r.2.r.Rules, .blk b1 [.string (bs r.2.text), .int .i64 r.2.at_, .int .i64 r.2.now.kind, .int .i64 r.2.now.at_, .int .i64 r.2.now.n, .string (bs r.2.now.text), u12, u13, u14] 88]
set_option maxHeartbeats 4000000 in
theorem F_slices_Index___string_string__w (p0 : List Str) (p1 : Str) (v1 : Value) (r : Int) (hF : F_slices_Index___string_string_ p0 p1 = some r) (O S : List Nat) (w : World) (H : Hd O w w S [.fz (.sl Rp.str v1 p0)]) :
  Calls Tryz.prog 118 ([v1, .string (bs p1)] : List Value).toArray w fun e w' => e = .returned (.int .i64 r) ∧ Hd O w w' S [] := by
 unfold F_slices_Index___string_string_ at hF
 refine yB 19 Tryz.func118 rfl rfl rfl ?_
 refine zC fun K3 hK3 => ?_
 refine zB ?_
 refine zI (.int .i64 0) ?_
 refine (zF (zA (hK3 _ _ ?_)))
 obtain ⟨k108, ek109, hF⟩ := joinO_some hF
 refine yL [4, 5, 6, 7, 8, 9, 10, 11, 12, 13, 14, 15, 16, 17, 18] (fun (g : Unit) => []) (fun g wl => Hd O w wl S [] ∧ k108 () = some r) ?_ ?_
 ·skip
  refine zC fun K110 hK110 => ?_
  refine zB ?_
  refine zM v1 ?_
  obtain ⟨x111, e112, hF⟩ := zG hF
  obtain ⟨a113, c114, q115⟩ := SlF.len ((H.item (i := 0) rfl))
  refine zH (yQ (Do_len u22 q115) (congrArg (Value.int .i64) e112)) ?_
  refine zM (.int .i64 0) ?_
  refine (zF (zA (hK110 _ _ ?_)))
  refine yJ ?_
  unfold F_slices_Index___string_string__L1 at hF
  obtain ⟨B208, n209, eB210, hF⟩ := yY hF
  refine xK [4, 5, 8, 9, 10, 11, 12, 13, 14, 15, 16, 17, 18] (fun (g : Nat × Int) => [(8, .int .i64 g.2)]) (fun g wl => Hd O w wl S [.fz (.sl Rp.str v1 p0)] ∧ loopN B208 g.1 g.2 = some r) (fun g => g.1) (n209, 0) (zK rfl zL) ⟨H.pick [0] (by decide), hF⟩ ?_
  clear H hF
  rintro ⟨n209, g207⟩ ρ w212 ⟨H, hF⟩
  obtain ⟨n213, rfl, hF⟩ := xE hF
  have hF := xC eB210 hF
  refine zC fun K214 hK214 => ?_
  refine zB ?_
  obtain ⟨x215, e216, hF⟩ := zG hF
  refine zH (zS (xZ (a := g207) (b := x111) rfl rfl) e216) ?_
  refine (zF (zA (hK214 _ _ ?_)))
  refine zC fun K218 hK218 => ?_
  refine zW (b := x215) rfl (fun c219 => ?_) (fun c219 => ?_)
  ·have hF := zO c219 hF
   refine (yA (zA (hK218 _ _ ?_)))
   refine zC fun K238 hK238 => ?_
   refine yJ ?_
   refine zC fun K239 hK239 => ?_
   refine zB ?_
   refine zM (.int .i64 g207) ?_
   refine zI (.int .i64 g207) ?_
   refine (zF (zA (hK239 _ _ ?_)))
   refine zC fun K240 hK240 => ?_
   refine zB ?_
   refine zM (.string (bs p1)) ?_
   refine zM v1 ?_
   refine zM (.int .i64 g207) ?_
   obtain ⟨x241, e242, hF⟩ := zD hF
   obtain ⟨b243, o244, c245, cs246, q247, h250, h248, h249, h251⟩ := rd_at (H.item (i := 0) rfl) e242
   obtain rfl : cs246 = [.string (bs x241)] := h250
   have H := H.fz (.at b243 (o244 + g207.toNat * 1) _) ⟨h248, h249, h251⟩
   refine zH (Do_idx u22 sz9 q247 rfl (yU e242).1 (yU e242).2.1 rfl rfl) ?_
   refine zH (zT one9 rfl (Cells.get (H.item (i := 1) rfl).2.2 (i := 0) rfl)) ?_
   obtain ⟨x253, e254, hF⟩ := zG hF
   refine zH (zS (xR (s1 := p1) (s2 := x241) rfl rfl) e254) ?_
   refine (zF (zA (hK240 _ _ ?_)))
   refine zW (b := x253) rfl (fun c255 => ?_) (fun c255 => ?_)
   ·have hF := zO c255 hF
    refine zC fun K256 hK256 => ?_
    refine zB ?_
    refine zM (.int .i64 g207) ?_
    refine zI (.int .i64 g207) ?_
    refine (zF (zA (hK256 _ _ ?_)))
    obtain rfl := someI hF
    refine (zZ (yF (zY (zY (yF (zY (post1 (v1 := .int .i64 g207) rfl rfl ?_)))))))
    exact ⟨rfl, H.pick [] (by decide)⟩
   have hF := zN c255 hF
   refine (yA (yR (zA (hK238 _ _ ?_))))
   refine zB ?_
   obtain ⟨x257, e258, hF⟩ := zG hF
   refine zH (wC (a := g207) (b := 1) rfl rfl e258) ?_
   refine zM (.int .i64 x257) ?_
   exact (zF (zA (meet ⟨(n213, x257), (zK rfl zL), ⟨H.pick [0] (by decide), hF⟩, Nat.lt_succ_self _⟩)))
  have hF := zN c219 hF
  exact (xW (yT (yT (xG (zA (meet ⟨(), zL, ⟨H.pick [] (by decide), hF⟩⟩))))))
 rintro _ ρ w107 ⟨H, hF⟩
 have hF := join_body ek109 hF
 refine zC fun K259 hK259 => ?_
 refine zB ?_
 refine zI (.int .i64 (-1)) ?_
 refine (zF (zA (hK259 _ _ ?_)))
 obtain rfl := someI hF
 refine (zZ (post1 (v1 := .int .i64 (-1)) rfl rfl ?_))
 exact ⟨rfl, H.pick [] (by decide)⟩
set_option maxHeartbeats 4000000 in
theorem F_slices_Contains___string_string__w (p0 : List Str) (p1 : Str) (v1 : Value) (r : Bool) (hF : F_slices_Contains___string_string_ p0 p1 = some r) (O S : List Nat) (w : World) (H : Hd O w w S [.fz (.sl Rp.str v1 p0)]) :
  Calls Tryz.prog 65 ([v1, .string (bs p1)] : List Value).toArray w fun e w' => e = .returned (.bool r) ∧ Hd O w w' S [] := by
 unfold F_slices_Contains___string_string_ at hF
 refine yB 9 Tryz.func65 rfl rfl rfl ?_
 refine zC fun K3 hK3 => ?_
 refine zB ?_
 refine zI (.bool false) ?_
 refine (zF (zA (hK3 _ _ ?_)))
 refine zC fun K4 hK4 => ?_
 refine zB ?_
 refine zM v1 ?_
 refine zM (.string (bs p1)) ?_
 have H5 := H
 obtain ⟨x6, e7, hF⟩ := zD hF
 refine zV rfl rfl (zU en118 rfl) (F_slices_Index___string_string__w p0 p1 v1 _ e7 _ _ _ (H.enter [] [0] (by decide) rfl)) ?_
 rintro _ w8 ⟨rfl, G9⟩
 have H := H5.step (G9.only : Only [] _ _)
 refine ⟨_, rfl, ?_⟩
 obtain ⟨x10, e11, hF⟩ := zG hF
 refine zH (zS (Do_geq (a := x6) (b := 0) rfl rfl) e11) ?_
 refine zI (.bool x10) ?_
 refine (zF (zA (hK4 _ _ ?_)))
 obtain rfl := someI hF
 refine (zZ (post1 (v1 := .bool x10) rfl rfl ?_))
 exact ⟨rfl, H.pick [] (by decide)⟩
set_option maxHeartbeats 4000000 in
theorem F_event_reader_begins_w (p0 : Option EventReader) (v1 : Option Addr) (r : Bool) (hF : F_event_reader_begins p0 = some r) (O S : List Nat) (w : World) (H : Hd O w w S [.fz (.pt rEventReader v1 p0)]) :
  Calls Tryz.prog 178 ([.pointer v1] : List Value).toArray w fun e w' => e = .returned (.bool r) ∧ Hd O w w' S [] := by
 unfold F_event_reader_begins at hF
 refine yB 21 Tryz.func178 rfl rfl rfl ?_
 refine zC fun K3 hK3 => ?_
 refine zB ?_
 refine zI (.bool false) ?_
 refine (zF (zA (hK3 _ _ ?_)))
 refine zC fun K65 hK65 => ?_
 refine zC fun K66 hK66 => ?_
 refine zB ?_
 refine zM (.pointer v1) ?_
 obtain ⟨x67, e68, hF⟩ := zD hF
 obtain ⟨b69, o70, cs71, q72, h73, h74, h75, h76⟩ := ptf_some ((H.item (i := 0) rfl) : PtF _ _ _ _ _) e68
 obtain ⟨v77, v78, v79, rfl, h80, h81, h82⟩ := rEventReader_open h75
 have H := H.fzs [.at b69 o70 _, .sl Rp.str v77 x67.r.Phases, .sl rMoveT v78 x67.r.Moves, .sl rRule v79 x67.r.Rules] ⟨⟨h73, h74, h76⟩, h80, h81, h82, trivial⟩
 refine zH (yG (ad := ⟨b69, o70, none⟩) (congrArg Value.pointer q72)) ?_
 refine zH (fa88_2 rfl) ?_
 refine zH (fa86_0 rfl) ?_
 refine zH (zT one3 rfl (Cells.get (H.item (i := 1) rfl).2.2 (i := 2) rfl)) ?_
 refine (zF (zA (hK66 _ _ ?_)))
 refine yJ ?_
 refine zC fun K87 hK87 => ?_
 refine zB ?_
 obtain ⟨x88, e89, hF⟩ := zG hF
 refine zH (zS (yP (a := x67.now.kind) (b := 2) rfl rfl) e89) ?_
 refine zI (.bool x88) ?_
 refine (zF (zA (hK87 _ _ ?_)))
 refine zW (b := x88) rfl (fun c90 => ?_) (fun c90 => ?_)
 ·have hF := zO c90 hF
  refine zC fun K91 hK91 => ?_
  refine zB ?_
  refine zI (.bool true) ?_
  refine (zF (zA (hK91 _ _ ?_)))
  obtain rfl := someI hF
  refine (zZ (yF (zY (post1 (v1 := .bool true) rfl rfl ?_))))
  exact ⟨rfl, H.pick [] (by decide)⟩
 have hF := zN c90 hF
 refine zC fun K92 hK92 => ?_
 refine zB ?_
 obtain ⟨x93, e94, hF⟩ := zG hF
 refine zH (zS (yP (a := x67.now.kind) (b := 1) rfl rfl) e94) ?_
 refine zI (.bool x93) ?_
 refine (zF (zA (hK92 _ _ ?_)))
 refine zW (b := x93) rfl (fun c95 => ?_) (fun c95 => ?_)
 ·have hF := zO c95 hF
  refine zC fun K96 hK96 => ?_
  refine zB ?_
  obtain ⟨x97, e98, hF⟩ := zG hF
  subst e98
  refine yX rfl rfl (Lx_bs (r := Rp.str) (xl := [[116, 114, 117, 101], [102, 97, 108, 115, 101], [115, 116, 101, 97, 100, 121], [112, 104, 97, 115, 101], [114, 117, 108, 101], [110, 111, 116], [102, 111, 114], [119, 105, 116, 104, 105, 110], [99, 111, 117, 110, 116], [114, 105, 115, 101, 115], [115, 105, 110, 99, 101]]) (cs := [.string (bs [116, 114, 117, 101]), .string (bs [102, 97, 108, 115, 101]), .string (bs [115, 116, 101, 97, 100, 121]), .string (bs [112, 104, 97, 115, 101]), .string (bs [114, 117, 108, 101]), .string (bs [110, 111, 116]), .string (bs [102, 111, 114]), .string (bs [119, 105, 116, 104, 105, 110]), .string (bs [99, 111, 117, 110, 116]), .string (bs [114, 105, 115, 101, 115]), .string (bs [115, 105, 110, 99, 101])]) u22 el9 (by decide) (by decide) rfl (xJ (vs := [.string (bs [116, 114, 117, 101]), .string (bs [102, 97, 108, 115, 101]), .string (bs [115, 116, 101, 97, 100, 121]), .string (bs [112, 104, 97, 115, 101]), .string (bs [114, 117, 108, 101]), .string (bs [110, 111, 116]), .string (bs [102, 111, 114]), .string (bs [119, 105, 116, 104, 105, 110]), .string (bs [99, 111, 117, 110, 116]), .string (bs [114, 105, 115, 101, 115]), .string (bs [115, 105, 110, 99, 101])]) (by decide) rfl rfl ⟨rfl, rfl, rfl, rfl, rfl, rfl, rfl, rfl, rfl, rfl, rfl, trivial⟩ rfl) H ⟨[.string (bs [116, 114, 117, 101])], [.string (bs [102, 97, 108, 115, 101]), .string (bs [115, 116, 101, 97, 100, 121]), .string (bs [112, 104, 97, 115, 101]), .string (bs [114, 117, 108, 101]), .string (bs [110, 111, 116]), .string (bs [102, 111, 114]), .string (bs [119, 105, 116, 104, 105, 110]), .string (bs [99, 111, 117, 110, 116]), .string (bs [114, 105, 115, 101, 115]), .string (bs [115, 105, 110, 99, 101])], rfl, rfl, ⟨[.string (bs [102, 97, 108, 115, 101])], [.string (bs [115, 116, 101, 97, 100, 121]), .string (bs [112, 104, 97, 115, 101]), .string (bs [114, 117, 108, 101]), .string (bs [110, 111, 116]), .string (bs [102, 111, 114]), .string (bs [119, 105, 116, 104, 105, 110]), .string (bs [99, 111, 117, 110, 116]), .string (bs [114, 105, 115, 101, 115]), .string (bs [115, 105, 110, 99, 101])], rfl, rfl, ⟨[.string (bs [115, 116, 101, 97, 100, 121])], [.string (bs [112, 104, 97, 115, 101]), .string (bs [114, 117, 108, 101]), .string (bs [110, 111, 116]), .string (bs [102, 111, 114]), .string (bs [119, 105, 116, 104, 105, 110]), .string (bs [99, 111, 117, 110, 116]), .string (bs [114, 105, 115, 101, 115]), .string (bs [115, 105, 110, 99, 101])], rfl, rfl, ⟨[.string (bs [112, 104, 97, 115, 101])], [.string (bs [114, 117, 108, 101]), .string (bs [110, 111, 116]), .string (bs [102, 111, 114]), .string (bs [119, 105, 116, 104, 105, 110]), .string (bs [99, 111, 117, 110, 116]), .string (bs [114, 105, 115, 101, 115]), .string (bs [115, 105, 110, 99, 101])], rfl, rfl, ⟨[.string (bs [114, 117, 108, 101])], [.string (bs [110, 111, 116]), .string (bs [102, 111, 114]), .string (bs [119, 105, 116, 104, 105, 110]), .string (bs [99, 111, 117, 110, 116]), .string (bs [114, 105, 115, 101, 115]), .string (bs [115, 105, 110, 99, 101])], rfl, rfl, ⟨[.string (bs [110, 111, 116])], [.string (bs [102, 111, 114]), .string (bs [119, 105, 116, 104, 105, 110]), .string (bs [99, 111, 117, 110, 116]), .string (bs [114, 105, 115, 101, 115]), .string (bs [115, 105, 110, 99, 101])], rfl, rfl, ⟨[.string (bs [102, 111, 114])], [.string (bs [119, 105, 116, 104, 105, 110]), .string (bs [99, 111, 117, 110, 116]), .string (bs [114, 105, 115, 101, 115]), .string (bs [115, 105, 110, 99, 101])], rfl, rfl, ⟨[.string (bs [119, 105, 116, 104, 105, 110])], [.string (bs [99, 111, 117, 110, 116]), .string (bs [114, 105, 115, 101, 115]), .string (bs [115, 105, 110, 99, 101])], rfl, rfl, ⟨[.string (bs [99, 111, 117, 110, 116])], [.string (bs [114, 105, 115, 101, 115]), .string (bs [115, 105, 110, 99, 101])], rfl, rfl, ⟨[.string (bs [114, 105, 115, 101, 115])], [.string (bs [115, 105, 110, 99, 101])], rfl, rfl, ⟨[.string (bs [115, 105, 110, 99, 101])], [], rfl, rfl, rfl⟩⟩⟩⟩⟩⟩⟩⟩⟩⟩⟩) ?_
  rintro v100 w101 H
  refine zM (.pointer v1) ?_
  obtain ⟨x102, e103, hF⟩ := zD hF
  obtain ⟨b104, o105, cs106, q107, h108, h109, h110, h111⟩ := ptf_some ((H.item (i := 0) rfl) : PtF _ _ _ _ _) e103
  obtain ⟨v112, v113, v114, rfl, h115, h116, h117⟩ := rEventReader_open h110
  have H := H.fzs [.at b104 o105 _, .sl Rp.str v112 x102.r.Phases, .sl rMoveT v113 x102.r.Moves, .sl rRule v114 x102.r.Rules] ⟨⟨h108, h109, h111⟩, h115, h116, h117, trivial⟩
  refine zH (yG (ad := ⟨b104, o105, none⟩) (congrArg Value.pointer q107)) ?_
  refine zH (fa88_2 rfl) ?_
  refine zH (fa86_3 rfl) ?_
  refine zH (zT one9 rfl (Cells.get (H.item (i := 6) rfl).2.2 (i := 5) rfl)) ?_
  have H122 := H
  have H := H.freeze (i := 5) rfl
  obtain ⟨x123, e124, hF⟩ := zD hF
  refine zV rfl rfl (zU en65 rfl) (F_slices_Contains___string_string__w ([[116, 114, 117, 101], [102, 97, 108, 115, 101], [115, 116, 101, 97, 100, 121], [112, 104, 97, 115, 101], [114, 117, 108, 101], [110, 111, 116], [102, 111, 114], [119, 105, 116, 104, 105, 110], [99, 111, 117, 110, 116], [114, 105, 115, 101, 115], [115, 105, 110, 99, 101]] : List Str) x102.now.text v100 _ e124 _ _ _ (H.enter [] [5] (by decide) rfl)) ?_
  rintro _ w125 ⟨rfl, G126⟩
  have H := H122.step (G126.only : Only [] _ _)
  refine ⟨_, rfl, ?_⟩
  refine zI (.bool x123) ?_
  refine (zF (zA (hK96 _ _ ?_)))
  obtain rfl := someI hF
  refine (zZ (yF (zY (post1 (v1 := .bool x123) rfl rfl ?_))))
  exact ⟨rfl, H.pick [] (by decide)⟩
 have hF := zN c95 hF
 refine (yA (yR (zA (hK65 _ _ ?_))))
 refine zC fun K127 hK127 => ?_
 refine zB ?_
 refine zM (.pointer v1) ?_
 have H128 := H
 obtain ⟨x129, e130, hF⟩ := zD hF
 refine zV rfl rfl (zU en88 rfl) (F_event_reader_is_w p0 [40] v1 _ e130 _ _ _ (H.enter [] [0] (by decide) rfl)) ?_
 rintro _ w131 ⟨rfl, G132⟩
 have H := H128.step (G132.only : Only [] _ _)
 refine ⟨_, rfl, ?_⟩
 refine zI (.bool x129) ?_
 refine (zF (zA (hK127 _ _ ?_)))
 obtain rfl := someI hF
 refine (zZ (post1 (v1 := .bool x129) rfl rfl ?_))
 exact ⟨rfl, H.pick [] (by decide)⟩
set_option maxHeartbeats 4000000 in
theorem F_event_reader_number_w (p0 : EventReader) (b1 : Nat) (v2 : Value) (v3 : Value) (v4 : Value) (r : Int × EventReader) (hF : F_event_reader_number p0 = some r) (O S : List Nat) (w : World) (H : Hd O w w S [.own Rp.str v2 9 p0.r.Phases, .own rMoveT v3 102 p0.r.Moves, .own rRule v4 106 p0.r.Rules, .blk b1 [.string (bs p0.text), .int .i64 p0.at_, .int .i64 p0.now.kind, .int .i64 p0.now.at_, .int .i64 p0.now.n, .string (bs p0.now.text), v2, v3, v4] 88, .fz (.gi 4)]) :
  Calls Tryz.prog 181 ([.pointer (some ⟨b1, 0, none⟩)] : List Value).toArray w fun e w' => ∃ u10 u11 u12, e = .returned (.int .i64 r.1) ∧ Hd O w w' S [.own Rp.str u10 9 r.2.r.Phases, .own rMoveT u11 102 r.2.r.Moves, .own rRule u12 106 r.2.r.Rules, .blk b1 [.string (bs r.2.text), .int .i64 r.2.at_, .int .i64 r.2.now.kind, .int .i64 r.2.now.at_, .int .i64 r.2.now.n, .string (bs r.2.now.text), u10, u11, u12] 88] := by
 unfold F_event_reader_number at hF
 refine yB 6 Tryz.func181 rfl rfl rfl ?_
 refine zC fun K13 hK13 => ?_
 refine zB ?_
 refine zI (.int .i64 0) ?_
 refine (zF (zA (hK13 _ _ ?_)))
 refine zC fun K14 hK14 => ?_
 refine zB ?_
 refine zM (.pointer (some ⟨b1, 0, none⟩)) ?_
 obtain ⟨⟨x15, x16⟩, e17, hF⟩ := zD hF
 refine zV rfl rfl (zU en140 rfl) (F_event_reader_take_w p0 3 b1 v2 v3 v4 _ e17 _ _ _ (H.enter [0, 1, 2, 3] [4] (by decide) rfl)) ?_
 rintro _ w24 ⟨v18, v19, v20, rfl, G25⟩
 have H : Hd O _ w24 _ [.fz (.gi 4), .own Rp.str v18 9 x16.r.Phases, .own rMoveT v19 102 x16.r.Moves, .own rRule v20 106 x16.r.Rules, .blk b1 [.string (bs x16.text), .int .i64 x16.at_, .int .i64 x16.now.kind, .int .i64 x16.now.at_, .int .i64 x16.now.n, .string (bs x16.now.text), v18, v19, v20] 88] := H.back [0, 1, 2, 3] [4] rfl G25
 refine ⟨_, rfl, ?_⟩
 refine zH (Do_field1 (v := .int .i64 x15.n) fo86_2 one3 rfl rfl) ?_
 refine zI (.int .i64 x15.n) ?_
 refine (zF (zA (hK14 _ _ ?_)))
 obtain rfl := someI hF
 refine (zZ (post1 (v1 := .int .i64 x15.n) rfl rfl ?_))
 exact ⟨v18, v19, v20, rfl, H.pick [1, 2, 3, 4] (by decide)⟩
set_option maxHeartbeats 4000000 in
theorem F_event_reader_comparison_w (p0 : EventReader) (b1 : Nat) (v2 : Value) (v3 : Value) (v4 : Value) (r : Cond × EventReader) (hF : F_event_reader_comparison p0 = some r) (O S : List Nat) (w : World) (H : Hd O w w S [.own Rp.str v2 9 p0.r.Phases, .own rMoveT v3 102 p0.r.Moves, .own rRule v4 106 p0.r.Rules, .blk b1 [.string (bs p0.text), .int .i64 p0.at_, .int .i64 p0.now.kind, .int .i64 p0.now.at_, .int .i64 p0.now.n, .string (bs p0.now.text), v2, v3, v4] 88, .fz (.at 0 0 ((Fl.arr 7 Fl.str).f zJ)), .fz (.gi 4)]) :
  Calls Tryz.prog 179 ([.pointer (some ⟨b1, 0, none⟩)] : List Value).toArray w fun e w' => ∃ u11 u12 u13 u14, e = .returned (.agg [.int .i64 r.1.Kind, .string (bs r.1.Name), .string (bs r.1.Other), .int .i64 r.1.Op, .int .i64 r.1.N, .int .i64 r.1.Frames, u11].toArray) ∧ Hd O w w' S [.fz (.sl rCond u11 r.1.Kids), .own Rp.str u12 9 r.2.r.Phases, .own rMoveT u13 102 r.2.r.Moves, .own rRule u14 106 r.2.r.Rules, .blk b1 [.string (bs r.2.text), .int .i64 r.2.at_, .int .i64 r.2.now.kind, .int .i64 r.2.now.at_, .int .i64 r.2.now.n, .string (bs r.2.now.text), u12, u13, u14] 88] := by
 unfold F_event_reader_comparison at hF
 refine yB 45 Tryz.func179 rfl rfl rfl ?_
 refine zC fun K15 hK15 => ?_
 refine zB ?_
 refine yX rfl rfl (xB zero54 H) ?_
 rintro _ w18 ⟨b16, rfl, H⟩
 refine (zF (zA (hK15 _ _ ?_)))
 refine zC fun K19 hK19 => ?_
 refine zB ?_
 refine zM (.pointer (some ⟨b1, 0, none⟩)) ?_
 obtain ⟨⟨x20, x21⟩, e22, hF⟩ := zD hF
 refine zV rfl rfl (zU en89 rfl) (F_event_reader_name_w p0 b1 v2 v3 v4 _ e22 _ _ _ (H.enter [0, 1, 2, 3] [5] (by decide) rfl)) ?_
 rintro _ w29 ⟨v23, v24, v25, rfl, G30⟩
 have H : Hd O _ w29 _ [.fz (.at 0 0 ((Fl.arr 7 Fl.str).f zJ)), .fz (.gi 4), .blk b16 [.int .i64 0, .string (bs []), .string (bs []), .int .i64 0, .int .i64 0, .int .i64 0, .slice none 0 0] 54, .own Rp.str v23 9 x21.r.Phases, .own rMoveT v24 102 x21.r.Moves, .own rRule v25 106 x21.r.Rules, .blk b1 [.string (bs x21.text), .int .i64 x21.at_, .int .i64 x21.now.kind, .int .i64 x21.now.at_, .int .i64 x21.now.n, .string (bs x21.now.text), v23, v24, v25] 88] := H.back [0, 1, 2, 3] [5] rfl G30
 refine ⟨_, rfl, ?_⟩
 refine zH (xH (cs := [.int .i64 3, .string (bs x20), .string (bs []), .int .i64 0, .int .i64 0, .int .i64 0, .slice none 0 0]) (bt54_0_1 _ _)) ?_
 refine yX rfl rfl (xB zero54 H) ?_
 rintro _ w33 ⟨b31, rfl, H⟩
 refine yN rfl (yH (vs := [.int .i64 3, .string (bs x20), .string (bs []), .int .i64 0, .int .i64 0, .int .i64 0, .slice none 0 0]) H 7 rfl sz54 rfl rfl rfl ⟨rfl, rfl, rfl, rfl, rfl, rfl, rfl, trivial⟩ rfl) ?_
 rintro w34 H
 refine (zF (zA (hK19 _ _ ?_)))
 refine zC fun K35 hK35 => ?_
 have H36 := H
 have H := H.rebase
 have H37 := H
 refine WP_mix0 H [0, 1, 2, 3, 4, 5, 6, 7, 8] [.pure, .pure, .pure, .pure, .pure, .read, .read, .pure, .eff] mixed (by kernel_rfl) (by kernel_rfl) (by kernel_rfl) rfl ?_
 refine Mx.XL_exP rfl rfl rfl (Lx_sliceAA (e := Fl.str) (X := zJ) (r := Rp.str) (fun _ _ _ _ => Iff.rfl) rfl u156 sz9 (H.item (i := 0) rfl).1 (H.item (i := 0) rfl).2.1 (H.item (i := 0) rfl).2.2 rfl (by decide)) ?_
 rintro v38 h39
 have H := H.fz (.sl Rp.str v38 zJ.l) h39
 refine Mx.zX rfl rfl rfl (fun w' hw' => xI (v := .pointer (some ⟨b1, 0, none⟩)) rfl) ?_
 refine Mx.zX rfl rfl rfl (fun w' hw' => yG rfl) ?_
 refine Mx.zX rfl rfl rfl (fun w' hw' => fa88_2 rfl) ?_
 refine Mx.zX rfl rfl rfl (fun w' hw' => fa86_3 rfl) ?_
 refine Mx.xM oS rfl rfl rfl (fun w' hw' => zT one9 rfl (Cells.get (Blk.cells ((H.sees hw').item (i := 6) rfl)) (i := 5) rfl)) ?_
 have H41 := H
 obtain ⟨x42, e43, hF⟩ := zD hF
 refine Mx.XL_call oS rfl rfl rfl (v := .int .i64 x42) (fun w' hw' => zU en118 rfl) (fun w' hw' => call_read (F_slices_Index___string_string__w zJ.l x21.now.text v38 _ e43 _ _ _ ((H.sees hw').enter [] [8] (by decide) rfl))) ?_
 have H := H41
 refine Mx.zX rfl rfl rfl (fun w' hw' => fa54_3 rfl) ?_
 refine Mx.XL_exU oS rfl rfl (fun w' hw' => xA (H.sees hw') 7 rfl sz3 rfl (v := .int .i64 x42) rfl rfl rfl) ?_
 rintro w' w44 hw' H
 refine ⟨H.only, ?_⟩
 refine Mx.XL_nil fun w45 hS => ?_
 have H := H.sees hS
 have H := H36.rejoin H
 refine (zA (hK35 _ _ ?_))
 obtain ⟨j62, hF, hK61⟩ := zD hF
 refine yL [15, 16, 17, 18, 19, 20, 21, 22, 23, 24, 25, 26, 27] (fun (g : Unit) => []) (fun g wl => Hd O w wl S [.fz (.at 0 0 ((Fl.arr 7 Fl.str).f zJ)), .fz (.gi 4), .blk b16 [.int .i64 0, .string (bs []), .string (bs []), .int .i64 0, .int .i64 0, .int .i64 0, .slice none 0 0] 54, .own Rp.str v23 9 x21.r.Phases, .own rMoveT v24 102 x21.r.Moves, .own rRule v25 106 x21.r.Rules, .blk b1 [.string (bs x21.text), .int .i64 x21.at_, .int .i64 x21.now.kind, .int .i64 x21.now.at_, .int .i64 x21.now.n, .string (bs x21.now.text), v23, v24, v25] 88, .blk b31 [.int .i64 3, .string (bs x20), .string (bs []), .int .i64 x42, .int .i64 0, .int .i64 0, .slice none 0 0] 54]) ?_ ?_
 ·skip
  obtain ⟨g68, hF, hK70⟩ := zD hF
  refine yL [15, 16, 17, 18, 19, 20, 21, 22, 23, 24, 25] (fun (g : Unit) => [(25, .bool g68)]) (fun g wl => Hd O w wl S [.fz (.at 0 0 ((Fl.arr 7 Fl.str).f zJ)), .fz (.gi 4), .blk b16 [.int .i64 0, .string (bs []), .string (bs []), .int .i64 0, .int .i64 0, .int .i64 0, .slice none 0 0] 54, .own Rp.str v23 9 x21.r.Phases, .own rMoveT v24 102 x21.r.Moves, .own rRule v25 106 x21.r.Rules, .blk b1 [.string (bs x21.text), .int .i64 x21.at_, .int .i64 x21.now.kind, .int .i64 x21.now.at_, .int .i64 x21.now.n, .string (bs x21.now.text), v23, v24, v25] 88, .blk b31 [.int .i64 3, .string (bs x20), .string (bs []), .int .i64 x42, .int .i64 0, .int .i64 0, .slice none 0 0] 54]) ?_ ?_
  ·skip
   refine zB ?_
   refine zM (.pointer (some ⟨b1, 0, none⟩)) ?_
   refine zH (yG rfl) ?_
   refine zH (fa88_2 rfl) ?_
   refine zH (fa86_0 rfl) ?_
   refine zH (zT one3 rfl (Cells.get (Blk.cells (H.item (i := 6) rfl)) (i := 2) rfl)) ?_
   obtain ⟨x71, e72, hF⟩ := zG hF
   refine zH (zS (Do_neq (a := x21.now.kind) (b := 4) rfl rfl) e72) ?_
   refine yK (b := x71) rfl rfl rfl (fun c73 => ?_) (fun c73 => ?_)
   ·have hF := zO c73 hF
    refine yD ?_
    refine yD ?_
    refine yD ?_
    refine zH (yI (v := .bool true) rfl rfl) ?_
    obtain rfl := someI hF
    exact (zF (zA (meet ⟨(), (zK rfl zL), H.pick [0, 1, 2, 3, 4, 5, 6, 7] (by decide)⟩)))
   have hF := zN c73 hF
   refine zH (fa54_3 rfl) ?_
   refine zH (zT one3 rfl (Cells.get (Blk.cells (H.item (i := 7) rfl)) (i := 3) rfl)) ?_
   obtain ⟨x74, e75, hF⟩ := zG hF
   refine zH (zS (xZ (a := x42) (b := 1) rfl rfl) e75) ?_
   refine zH (yE (v := .bool x74) rfl rfl) ?_
   obtain rfl := someI hF
   exact (zF (zA (meet ⟨(), (zK rfl zL), H.pick [0, 1, 2, 3, 4, 5, 6, 7] (by decide)⟩)))
  rintro _ ρ w69 H
  have hF := hK70
  refine zW (b := g68) rfl (fun c76 => ?_) (fun c76 => ?_)
  ·have hF := zO c76 hF
   refine zB ?_
   refine zM (.pointer (some ⟨b1, 0, none⟩)) ?_
   have H77 := H
   have H := H.freezeB (i := 6) rfl
   have H := H.freeze (i := 3) rfl
   have H := H.freeze (i := 4) rfl
   have H := H.freeze (i := 5) rfl
   have H := H.fz (.pt rEventReader (some ⟨b1, 0, none⟩) (some x21)) ⟨_, _, _, rfl, (H.item (i := 6) rfl).1, (H.item (i := 6) rfl).2.1, (xN (x := x21) (H.item (i := 3) rfl) (H.item (i := 4) rfl) (H.item (i := 5) rfl)), (H.item (i := 6) rfl).2.2⟩
   obtain ⟨_, e79, hF⟩ := zD hF
   refine zV rfl rfl (zU en92 rfl) (F_event_reader_fail_w (some x21) 6 (some ⟨b1, 0, none⟩) _ e79 _ _ _ (H.enter [] [8] (by decide) rfl)) ?_
   rintro _ w80 ⟨rfl, G81⟩
   have H := H77.step (G81.only : Only [] _ _)
   refine ⟨_, rfl, ?_⟩
   obtain rfl := someI hF
   exact (zF (zA (meet ⟨(), zL, H.pick [0, 1, 2, 3, 4, 5, 6, 7] (by decide)⟩)))
  have hF := zN c76 hF
  obtain rfl := someI hF
  exact (yA (zA (meet ⟨(), zL, H.pick [0, 1, 2, 3, 4, 5, 6, 7] (by decide)⟩)))
 rintro _ ρ w60 H
 have hF := hK61
 refine zC fun K82 hK82 => ?_
 refine zB ?_
 refine zM (.pointer (some ⟨b1, 0, none⟩)) ?_
 obtain ⟨x83, e84, hF⟩ := zD hF
 refine zV rfl rfl (zU en87 rfl) (F_event_reader_advance_w x21 b1 v23 v24 v25 _ e84 _ _ _ (H.enter [3, 4, 5, 6] [1] (by decide) rfl)) ?_
 rintro _ w91 ⟨v85, v86, v87, rfl, G92⟩
 have H : Hd O _ w91 _ [.fz (.at 0 0 ((Fl.arr 7 Fl.str).f zJ)), .fz (.gi 4), .blk b16 [.int .i64 0, .string (bs []), .string (bs []), .int .i64 0, .int .i64 0, .int .i64 0, .slice none 0 0] 54, .blk b31 [.int .i64 3, .string (bs x20), .string (bs []), .int .i64 x42, .int .i64 0, .int .i64 0, .slice none 0 0] 54, .own Rp.str v85 9 x83.r.Phases, .own rMoveT v86 102 x83.r.Moves, .own rRule v87 106 x83.r.Rules, .blk b1 [.string (bs x83.text), .int .i64 x83.at_, .int .i64 x83.now.kind, .int .i64 x83.now.at_, .int .i64 x83.now.n, .string (bs x83.now.text), v85, v86, v87] 88] := H.back [3, 4, 5, 6] [1] rfl G92
 refine ⟨_, rfl, ?_⟩
 refine (zF (zA (hK82 _ _ ?_)))
 refine zC fun K113 hK113 => ?_
 refine zC fun K114 hK114 => ?_
 refine zB ?_
 refine zM (.pointer (some ⟨b1, 0, none⟩)) ?_
 refine zH (yG rfl) ?_
 refine zH (fa88_2 rfl) ?_
 refine zH (fa86_0 rfl) ?_
 refine zH (zT one3 rfl (Cells.get (Blk.cells (H.item (i := 7) rfl)) (i := 2) rfl)) ?_
 obtain ⟨x115, e116, hF⟩ := zG hF
 refine zH (zS (yP (a := x83.now.kind) (b := 2) rfl rfl) e116) ?_
 refine (zF (zA (hK114 _ _ ?_)))
 refine zW (b := x115) rfl (fun c117 => ?_) (fun c117 => ?_)
 ·have hF := zO c117 hF
  refine zC fun K118 hK118 => ?_
  refine zB ?_
  refine zM (.pointer (some ⟨b1, 0, none⟩)) ?_
  obtain ⟨⟨x119, x120⟩, e121, hF⟩ := zD hF
  refine zV rfl rfl (zU en89 rfl) (F_event_reader_name_w x83 b1 v85 v86 v87 _ e121 _ _ _ (H.enter [4, 5, 6, 7] [1] (by decide) rfl)) ?_
  rintro _ w128 ⟨v122, v123, v124, rfl, G129⟩
  have H : Hd O _ w128 _ [.fz (.at 0 0 ((Fl.arr 7 Fl.str).f zJ)), .fz (.gi 4), .blk b16 [.int .i64 0, .string (bs []), .string (bs []), .int .i64 0, .int .i64 0, .int .i64 0, .slice none 0 0] 54, .blk b31 [.int .i64 3, .string (bs x20), .string (bs []), .int .i64 x42, .int .i64 0, .int .i64 0, .slice none 0 0] 54, .own Rp.str v122 9 x120.r.Phases, .own rMoveT v123 102 x120.r.Moves, .own rRule v124 106 x120.r.Rules, .blk b1 [.string (bs x120.text), .int .i64 x120.at_, .int .i64 x120.now.kind, .int .i64 x120.now.at_, .int .i64 x120.now.n, .string (bs x120.now.text), v122, v123, v124] 88] := H.back [4, 5, 6, 7] [1] rfl G129
  refine ⟨_, rfl, ?_⟩
  refine zH (fa54_0 rfl) ?_
  refine yN rfl (xA H 3 rfl sz3 rfl (v := .int .i64 4) rfl rfl rfl) ?_
  rintro w130 H
  refine zH (fa54_2 rfl) ?_
  refine yN rfl (xA H 3 rfl sz9 rfl (v := .string (bs x119)) rfl rfl rfl) ?_
  rintro w131 H
  refine (zF (zA (hK118 _ _ ?_)))
  refine zC fun K132 hK132 => ?_
  refine zB ?_
  refine zH (yQ (yM (cs := [.int .i64 4, .string (bs x20), .string (bs x119), .int .i64 x42, .int .i64 0, .int .i64 0, .slice none 0 0]) agg54 rfl sz54 rfl (Blk.cells (H.item (i := 3) rfl))) rfl) ?_
  refine yN rfl (yH (vs := [.int .i64 4, .string (bs x20), .string (bs x119), .int .i64 x42, .int .i64 0, .int .i64 0, .slice none 0 0]) H 2 rfl sz54 rfl rfl rfl ⟨rfl, rfl, rfl, rfl, rfl, rfl, rfl, trivial⟩ rfl) ?_
  rintro w133 H
  refine (zF (zA (hK132 _ _ ?_)))
  have H := H.fz (.sl rCond (.slice none 0 0) []) SlF.nil
  obtain rfl := someI hF
  refine (zZ (zY (postc  rfl rfl (yC agg54 sz54 rfl (Blk.cells (H.item (i := 2) rfl))) ?_)))
  exact ⟨.slice none 0 0, v122, v123, v124, rfl, H.pick [8, 4, 5, 6, 7] (by decide)⟩
 have hF := zN c117 hF
 refine (yA (zA (hK113 _ _ ?_)))
 refine zC fun K135 hK135 => ?_
 refine zB ?_
 refine zM (.pointer (some ⟨b1, 0, none⟩)) ?_
 obtain ⟨⟨x136, x137⟩, e138, hF⟩ := zD hF
 refine zV rfl rfl (zU en181 rfl) (F_event_reader_number_w x83 b1 v85 v86 v87 _ e138 _ _ _ (H.enter [4, 5, 6, 7] [1] (by decide) rfl)) ?_
 rintro _ w145 ⟨v139, v140, v141, rfl, G146⟩
 have H : Hd O _ w145 _ [.fz (.at 0 0 ((Fl.arr 7 Fl.str).f zJ)), .fz (.gi 4), .blk b16 [.int .i64 0, .string (bs []), .string (bs []), .int .i64 0, .int .i64 0, .int .i64 0, .slice none 0 0] 54, .blk b31 [.int .i64 3, .string (bs x20), .string (bs []), .int .i64 x42, .int .i64 0, .int .i64 0, .slice none 0 0] 54, .own Rp.str v139 9 x137.r.Phases, .own rMoveT v140 102 x137.r.Moves, .own rRule v141 106 x137.r.Rules, .blk b1 [.string (bs x137.text), .int .i64 x137.at_, .int .i64 x137.now.kind, .int .i64 x137.now.at_, .int .i64 x137.now.n, .string (bs x137.now.text), v139, v140, v141] 88] := H.back [4, 5, 6, 7] [1] rfl G146
 refine ⟨_, rfl, ?_⟩
 refine zH (fa54_4 rfl) ?_
 refine yN rfl (xA H 3 rfl sz3 rfl (v := .int .i64 x136) rfl rfl rfl) ?_
 rintro w147 H
 refine (zF (zA (hK135 _ _ ?_)))
 refine zC fun K148 hK148 => ?_
 refine zB ?_
 refine zH (yQ (yM (cs := [.int .i64 3, .string (bs x20), .string (bs []), .int .i64 x42, .int .i64 x136, .int .i64 0, .slice none 0 0]) agg54 rfl sz54 rfl (Blk.cells (H.item (i := 3) rfl))) rfl) ?_
 refine yN rfl (yH (vs := [.int .i64 3, .string (bs x20), .string (bs []), .int .i64 x42, .int .i64 x136, .int .i64 0, .slice none 0 0]) H 2 rfl sz54 rfl rfl rfl ⟨rfl, rfl, rfl, rfl, rfl, rfl, rfl, trivial⟩ rfl) ?_
 rintro w149 H
 refine (zF (zA (hK148 _ _ ?_)))
 have H := H.fz (.sl rCond (.slice none 0 0) []) SlF.nil
 obtain rfl := someI hF
 refine (zZ (postc  rfl rfl (yC agg54 sz54 rfl (Blk.cells (H.item (i := 2) rfl))) ?_))
 exact ⟨.slice none 0 0, v139, v140, v141, rfl, H.pick [8, 4, 5, 6, 7] (by decide)⟩
abbrev S_event_reader_part (f : EventReader → Int → Option (Cond × EventReader)) : Prop := ∀ (p0 : EventReader) (p1 : Int) (b1 : Nat) (v2 : Value) (v3 : Value) (v4 : Value) (r : Cond × EventReader) (_ : f p0 p1 = some r) (O S : List Nat) (w : World) (_ : Hd O w w S [.own Rp.str v2 9 p0.r.Phases, .own rMoveT v3 102 p0.r.Moves, .own rRule v4 106 p0.r.Rules, .blk b1 [.string (bs p0.text), .int .i64 p0.at_, .int .i64 p0.now.kind, .int .i64 p0.now.at_, .int .i64 p0.now.n, .string (bs p0.now.text), v2, v3, v4] 88, .fz (.at 0 0 ((Fl.arr 7 Fl.str).f zJ)), .fz (.gi 4)]),
  Calls Tryz.prog 144 ([.pointer (some ⟨b1, 0, none⟩), .int .i64 p1] : List Value).toArray w fun e w' => ∃ u11 u12 u13 u14, e = .returned (.agg [.int .i64 r.1.Kind, .string (bs r.1.Name), .string (bs r.1.Other), .int .i64 r.1.Op, .int .i64 r.1.N, .int .i64 r.1.Frames, u11].toArray) ∧ Hd O w w' S [.fz (.sl rCond u11 r.1.Kids), .own Rp.str u12 9 r.2.r.Phases, .own rMoveT u13 102 r.2.r.Moves, .own rRule u14 106 r.2.r.Rules, .blk b1 [.string (bs r.2.text), .int .i64 r.2.at_, .int .i64 r.2.now.kind, .int .i64 r.2.now.at_, .int .i64 r.2.now.n, .string (bs r.2.now.text), u12, u13, u14] 88]
set_option maxHeartbeats 4000000 in
theorem F_event_reader_part_1_pdd_w (rfA : EventReader → Int → Option (Cond × EventReader)) (rhA : S_event_reader_part rfA) (p0 : Int) (c0p : EventReader) (c1 : Int) (b1 : Nat) (b3 : Nat) (v4 : Value) (v5 : Value) (v6 : Value) (b11 : Nat) (r : (List Cond) × EventReader) (hF : F_event_reader_part_1_pdd rfA p0 c0p c1 = some r) (O S : List Nat) (w : World) (H : Hd O w w S [.own Rp.str v4 9 c0p.r.Phases, .own rMoveT v5 102 c0p.r.Moves, .own rRule v6 106 c0p.r.Rules, .blk b3 [.string (bs c0p.text), .int .i64 c0p.at_, .int .i64 c0p.now.kind, .int .i64 c0p.now.at_, .int .i64 c0p.now.n, .string (bs c0p.now.text), v4, v5, v6] 88, .blk b1 [.pointer (some ⟨b3, 0, none⟩)] 84, .blk b11 [.int .i64 c1] 3, .fz (.at 0 0 ((Fl.arr 7 Fl.str).f zJ)), .fz (.gi 4)]) :
  Calls Tryz.prog 180 ([.int .i64 p0, .pointer (some ⟨b1, 0, none⟩), .pointer (some ⟨b11, 0, none⟩)] : List Value).toArray w fun e w' => ∃ u15 u16 u17 u18, e = .returned (u15) ∧ Hd O w w' S [.own rCond u15 54 r.1, .own Rp.str u16 9 r.2.r.Phases, .own rMoveT u17 102 r.2.r.Moves, .own rRule u18 106 r.2.r.Rules, .blk b3 [.string (bs r.2.text), .int .i64 r.2.at_, .int .i64 r.2.now.kind, .int .i64 r.2.now.at_, .int .i64 r.2.now.n, .string (bs r.2.now.text), u16, u17, u18] 88, .blk b1 [.pointer (some ⟨b3, 0, none⟩)] 84, .blk b11 [.int .i64 c1] 3] := by
 unfold F_event_reader_part_1_pdd at hF
 refine yB 18 Tryz.func180 rfl rfl rfl ?_
 refine zC fun K19 hK19 => ?_
 refine zB ?_
 refine zI (.slice none 0 0) ?_
 refine (zF (zA (hK19 _ _ ?_)))
 refine zC fun K20 hK20 => ?_
 refine zB ?_
 refine zI (.slice none 0 0) ?_
 refine (zF (zA (hK20 _ _ ?_)))
 obtain ⟨j184, hF, hK183⟩ := zD hF
 refine yL [5, 6, 7, 8, 9, 10, 11, 12, 13, 14, 15, 16] (fun (g : Value × Value × Value × Value) => [(5, g.1)]) (fun g wl => Hd O w wl S [.own rCond g.1 54 j184.1, .blk b3 [.string (bs j184.2.1), .int .i64 j184.2.2.1, .int .i64 j184.2.2.2.1, .int .i64 j184.2.2.2.2.1, .int .i64 j184.2.2.2.2.2.1, .string (bs j184.2.2.2.2.2.2.1), g.2.1, g.2.2.1, g.2.2.2] 88, .own Rp.str g.2.1 9 j184.2.2.2.2.2.2.2.1, .own rMoveT g.2.2.1 102 j184.2.2.2.2.2.2.2.2.1, .own rRule g.2.2.2 106 j184.2.2.2.2.2.2.2.2.2, .blk b1 [.pointer (some ⟨b3, 0, none⟩)] 84, .blk b11 [.int .i64 c1] 3, .fz (.at 0 0 ((Fl.arr 7 Fl.str).f zJ)), .fz (.gi 4)]) ?_ ?_
 ·skip
  refine zC fun K185 hK185 => ?_
  refine zB ?_
  refine zM (.int .i64 p0) ?_
  refine zM (.int .i64 0) ?_
  refine (zF (zA (hK185 _ _ ?_)))
  refine yJ ?_
  have H := own_nil H rCond 54
  unfold F_event_reader_part_1_pdd_L1 at hF
  obtain ⟨B341, n342, eB343, hF⟩ := yY hF
  refine xK [5, 7, 8, 9, 10, 11, 12, 13, 14, 15, 16] (fun (g : Nat × (List Cond) × Int × Str × Int × Int × Int × Int × Str × (List Str) × (List MoveT) × (List Rule) × Value × Value × Value × Value) => [(5, g.2.2.2.2.2.2.2.2.2.2.2.2.1), (7, .int .i64 g.2.2.1)]) (fun g wl => Hd O w wl S [.own rCond g.2.2.2.2.2.2.2.2.2.2.2.2.1 54 g.2.1, .blk b3 [.string (bs g.2.2.2.1), .int .i64 g.2.2.2.2.1, .int .i64 g.2.2.2.2.2.1, .int .i64 g.2.2.2.2.2.2.1, .int .i64 g.2.2.2.2.2.2.2.1, .string (bs g.2.2.2.2.2.2.2.2.1), g.2.2.2.2.2.2.2.2.2.2.2.2.2.1, g.2.2.2.2.2.2.2.2.2.2.2.2.2.2.1, g.2.2.2.2.2.2.2.2.2.2.2.2.2.2.2] 88, .own Rp.str g.2.2.2.2.2.2.2.2.2.2.2.2.2.1 9 g.2.2.2.2.2.2.2.2.2.1, .own rMoveT g.2.2.2.2.2.2.2.2.2.2.2.2.2.2.1 102 g.2.2.2.2.2.2.2.2.2.2.1, .own rRule g.2.2.2.2.2.2.2.2.2.2.2.2.2.2.2 106 g.2.2.2.2.2.2.2.2.2.2.2.1, .blk b1 [.pointer (some ⟨b3, 0, none⟩)] 84, .blk b11 [.int .i64 c1] 3, .fz (.at 0 0 ((Fl.arr 7 Fl.str).f zJ)), .fz (.gi 4)] ∧ loopN B341 g.1 (g.2.1, g.2.2.1, g.2.2.2.1, g.2.2.2.2.1, g.2.2.2.2.2.1, g.2.2.2.2.2.2.1, g.2.2.2.2.2.2.2.1, g.2.2.2.2.2.2.2.2.1, g.2.2.2.2.2.2.2.2.2.1, g.2.2.2.2.2.2.2.2.2.2.1, g.2.2.2.2.2.2.2.2.2.2.2.1) = some j184) (fun g => g.1) (n342, [], 0, c0p.text, c0p.at_, c0p.now.kind, c0p.now.at_, c0p.now.n, c0p.now.text, c0p.r.Phases, c0p.r.Moves, c0p.r.Rules, .slice none 0 0, v4, v5, v6) (zK rfl (zK rfl zL)) ⟨H.pick [8, 3, 0, 1, 2, 4, 5, 6, 7] (by decide), hF⟩ ?_
  clear H hF
  rintro ⟨n342, g322, g324, g325, g326, g327, g328, g329, g330, g332, g335, g338, v323, v333, v336, v339⟩ ρ w345 ⟨H, hF⟩
  obtain ⟨n346, rfl, hF⟩ := xE hF
  have hF := xC eB343 hF
  refine zC fun K347 hK347 => ?_
  refine zB ?_
  obtain ⟨x348, e349, hF⟩ := zG hF
  refine zH (zS (xZ (a := g324) (b := p0) rfl rfl) e349) ?_
  refine (zF (zA (hK347 _ _ ?_)))
  refine zC fun K351 hK351 => ?_
  refine zW (b := x348) rfl (fun c352 => ?_) (fun c352 => ?_)
  ·have hF := zO c352 hF
   refine (yA (zA (hK351 _ _ ?_)))
   refine zC fun K377 hK377 => ?_
   refine yJ ?_
   refine zB ?_
   refine zM v323 ?_
   refine zH (zT one84 rfl (Cells.get (Blk.cells (H.item (i := 5) rfl)) (i := 0) rfl)) ?_
   refine zH (zT one3 rfl (Cells.get (Blk.cells (H.item (i := 6) rfl)) (i := 0) rfl)) ?_
   obtain ⟨x378, e379, hF⟩ := zG hF
   refine zH (wC (a := c1) (b := 1) rfl rfl e379) ?_
   obtain ⟨⟨x380, x381⟩, e382, hF⟩ := zD hF
   refine zV rfl rfl (zU en144 rfl) (rhA (EventReader.mk g325 g326 (EventToken.mk g327 g328 g329 g330) (Rules.mk g332 g335 g338)) x378 b3 v333 v336 v339 _ e382 _ _ _ (H.enter [2, 3, 4, 1] [7, 8] (by decide) rfl)) ?_
   rintro _ w391 ⟨v383, v385, v386, v387, rfl, G392⟩
   have H : Hd O _ w391 _ [.own rCond v323 54 g322, .blk b1 [.pointer (some ⟨b3, 0, none⟩)] 84, .blk b11 [.int .i64 c1] 3, .fz (.at 0 0 ((Fl.arr 7 Fl.str).f zJ)), .fz (.gi 4), .fz (.sl rCond v383 x380.Kids), .own Rp.str v385 9 x381.r.Phases, .own rMoveT v386 102 x381.r.Moves, .own rRule v387 106 x381.r.Rules, .blk b3 [.string (bs x381.text), .int .i64 x381.at_, .int .i64 x381.now.kind, .int .i64 x381.now.at_, .int .i64 x381.now.n, .string (bs x381.now.text), v385, v386, v387] 88] := H.back [2, 3, 4, 1] [7, 8] rfl G392
   refine ⟨_, rfl, ?_⟩
   obtain ⟨x393, e394, hF⟩ := zG hF
   subst e394
   refine yX rfl rfl (Lx_bs (r := rCond) (xl := [x380]) (cs := [.int .i64 x380.Kind, .string (bs x380.Name), .string (bs x380.Other), .int .i64 x380.Op, .int .i64 x380.N, .int .i64 x380.Frames, v383]) u52 el54 (by decide) (by decide) rfl (xJ (vs := [.agg [.int .i64 x380.Kind, .string (bs x380.Name), .string (bs x380.Other), .int .i64 x380.Op, .int .i64 x380.N, .int .i64 x380.Frames, v383].toArray]) (by decide) rfl rfl ⟨rfl, trivial⟩ rfl) H ⟨[.int .i64 x380.Kind, .string (bs x380.Name), .string (bs x380.Other), .int .i64 x380.Op, .int .i64 x380.N, .int .i64 x380.Frames, v383], [], rfl, (rCond_mk (x := x380) (H.item (i := 5) rfl)), rfl⟩) ?_
   rintro v396 w397 H
   obtain ⟨x398, e399, hF⟩ := zD hF
   refine yX rfl rfl (Lx_app H (i := 0) rfl u52 el54 rfl rfl (Sr.of_own (H.item (i := 10) rfl)) e399) ?_
   rintro v400 w401 H
   refine zI v400 ?_
   refine (zF (yR (zA (hK377 _ _ ?_))))
   refine zB ?_
   obtain ⟨x402, e403, hF⟩ := zG hF
   refine zH (wC (a := g324) (b := 1) rfl rfl e403) ?_
   refine zM (.int .i64 x402) ?_
   exact (zF (zA (meet ⟨(n346, x398, x402, x381.text, x381.at_, x381.now.kind, x381.now.at_, x381.now.n, x381.now.text, x381.r.Phases, x381.r.Moves, x381.r.Rules, v400, v385, v386, v387), (zK rfl (zK rfl zL)), ⟨H.pick [0, 9, 6, 7, 8, 1, 2, 3, 4] (by decide), hF⟩, Nat.lt_succ_self _⟩)))
  have hF := zN c352 hF
  obtain rfl := someI hF
  exact (xW (yT (yT (xG (zA (meet ⟨(v323, v333, v336, v339), (zK rfl zL), H.pick [0, 1, 2, 3, 4, 5, 6, 7, 8] (by decide)⟩))))))
 rintro ⟨v166, v175, v178, v181⟩ ρ w182 H
 have hF := hK183
 obtain ⟨g165, g167, g168, g169, g170, g171, g172, g174, g177, g180⟩ := j184
 refine zC fun K404 hK404 => ?_
 refine zB ?_
 refine zM v166 ?_
 refine zI v166 ?_
 refine (zF (zA (hK404 _ _ ?_)))
 obtain rfl := someI hF
 refine (zZ (post1 (v1 := v166) rfl rfl ?_))
 exact ⟨v166, v175, v178, v181, rfl, H.pick [0, 2, 3, 4, 1, 5, 6] (by decide)⟩
end Go.Proofs.YtnajnkghilemhaaGreatDoor.L
