/- Walks: what each function computes, for every argument; no condition but those that stand in the statements. -/
import Derived.Test.YtafgmocdnjdmoaaDoorRows
import Derived.Test.YtafgmocdnjdmoaaDoorAP
import Derived.Test.YtafgmocdnjdmoaaDoorXAw
namespace Go.Proofs.YtafgmocdnjdmoaaDoor.L
open Go.RowKit Go.OB Go.Lf
theorem u3 : Tryd.prog.underlying 3 = some (.int .i64) := Tryd.underlying3
theorem u4 : Tryd.prog.underlying 4 = some .bool := Tryd.underlying4
theorem u5 : Tryd.prog.underlying 5 = some (.int .u8) := Tryd.underlying5
theorem u9 : Tryd.prog.underlying 9 = some .string := Tryd.underlying9
theorem u22 : Tryd.prog.underlying 22 = some (.slice 5) := Tryd.underlying22
theorem u23 : Tryd.prog.underlying 23 = some (.int .u16) := Tryd.underlying23
theorem u25 : Tryd.prog.underlying 25 = some (.array 64 23) := Tryd.underlying25
theorem u46 : Tryd.prog.underlying 46 = some (.slice 3) := Tryd.underlying46
theorem u50 : Tryd.prog.underlying 50 = some (.slice 80) := Tryd.underlying50
theorem u56 : Tryd.prog.underlying 56 = some (.array 8 25) := Tryd.underlying56
theorem u70 : Tryd.prog.underlying 70 = some (.slice 4) := Tryd.underlying70
theorem u82 : Tryd.prog.underlying 82 = some (.array 8 5) := Tryd.underlying82
theorem u90 : Tryd.prog.underlying 90 = some (.slice 25) := Tryd.underlying90
theorem u111 : Tryd.prog.underlying 111 = some (.array 4 23) := Tryd.underlying111
theorem u116 : Tryd.prog.underlying 116 = some (.array 96 5) := Tryd.underlying116
theorem u120 : Tryd.prog.underlying 120 = some (.slice 23) := Tryd.underlying120
theorem u123 : Tryd.prog.underlying 123 = some (.int .u64) := Tryd.underlying123
theorem u124 : Tryd.prog.underlying 124 = some (.array 2 123) := Tryd.underlying124
theorem u125 : Tryd.prog.underlying 125 = some (.slice 123) := Tryd.underlying125
theorem u128 : Tryd.prog.underlying 128 = some (.array 4 3) := Tryd.underlying128
theorem sz3 : Sz Tryd.prog 3 1 := by unfold Sz; kernel_rfl
theorem sz4 : Sz Tryd.prog 4 1 := by unfold Sz; kernel_rfl
theorem sz5 : Sz Tryd.prog 5 1 := by unfold Sz; kernel_rfl
theorem sz23 : Sz Tryd.prog 23 1 := by unfold Sz; kernel_rfl
theorem sz25 : Sz Tryd.prog 25 64 := by unfold Sz; kernel_rfl
theorem sz56 : Sz Tryd.prog 56 512 := by unfold Sz; kernel_rfl
theorem sz80 : Sz Tryd.prog 80 2 := by unfold Sz; kernel_rfl
theorem sz82 : Sz Tryd.prog 82 8 := by unfold Sz; kernel_rfl
theorem sz116 : Sz Tryd.prog 116 96 := by unfold Sz; kernel_rfl
theorem sz123 : Sz Tryd.prog 123 1 := by unfold Sz; kernel_rfl
theorem one3 : OneC Tryd.prog 3 := by unfold OneC; kernel_rfl
theorem one4 : OneC Tryd.prog 4 := by unfold OneC; kernel_rfl
theorem one5 : OneC Tryd.prog 5 := by unfold OneC; kernel_rfl
theorem one23 : OneC Tryd.prog 23 := by unfold OneC; kernel_rfl
theorem one123 : OneC Tryd.prog 123 := by unfold OneC; kernel_rfl
theorem agg25 : Agg Tryd.prog 25 := by unfold Agg; kernel_rfl
theorem agg56 : Agg Tryd.prog 56 := by unfold Agg; kernel_rfl
theorem agg80 : Agg Tryd.prog 80 := by unfold Agg; kernel_rfl
theorem agg82 : Agg Tryd.prog 82 := by unfold Agg; kernel_rfl
theorem agg116 : Agg Tryd.prog 116 := by unfold Agg; kernel_rfl
theorem zero25 : Go.OB.Zero Tryd.prog 25 ((Fl.arr 64 (Fl.int .u16)).f (Arr.rep 64 0 : Arr 64 Int)) := by unfold Go.OB.Zero; kernel_rfl
theorem zero56 : Go.OB.Zero Tryd.prog 56 ((Fl.arr 8 (Fl.arr 64 (Fl.int .u16))).f (Arr.rep 8 (Arr.rep 64 0 : Arr 64 Int) : Arr 8 (Arr 64 Int))) := by unfold Go.OB.Zero; kernel_rfl
theorem zero82 : Go.OB.Zero Tryd.prog 82 ((Fl.arr 8 (Fl.int .u8)).f (Arr.rep 8 0 : Arr 8 Int)) := by unfold Go.OB.Zero; kernel_rfl
theorem zero116 : Go.OB.Zero Tryd.prog 116 ((Fl.arr 96 (Fl.int .u8)).f (Arr.rep 96 0 : Arr 96 Int)) := by unfold Go.OB.Zero; kernel_rfl
theorem el3 : El Tryd.prog 3 1 8 ([.int .i64 0]) := ⟨by kernel_rfl, by kernel_rfl, by kernel_rfl, by decide, by decide⟩
theorem el4 : El Tryd.prog 4 1 1 ([.bool false]) := ⟨by kernel_rfl, by kernel_rfl, by kernel_rfl, by decide, by decide⟩
theorem el5 : El Tryd.prog 5 1 1 ([.int .u8 0]) := ⟨by kernel_rfl, by kernel_rfl, by kernel_rfl, by decide, by decide⟩
theorem el25 : El Tryd.prog 25 64 128 ((Fl.arr 64 (Fl.int .u16)).f (Arr.rep 64 0 : Arr 64 Int)) := ⟨by kernel_rfl, by kernel_rfl, by kernel_rfl, by decide, by decide⟩
theorem el80 : El Tryd.prog 80 2 16 ([.int .i64 0, .int .i64 0]) := ⟨by kernel_rfl, by kernel_rfl, by kernel_rfl, by decide, by decide⟩
theorem el123 : El Tryd.prog 123 1 8 ([.int .u64 0]) := ⟨by kernel_rfl, by kernel_rfl, by kernel_rfl, by decide, by decide⟩
theorem bz25 : Tryd.prog.built 25 [] = some ((Fl.arr 64 (Fl.int .u16)).f (Arr.rep 64 0 : Arr 64 Int)).toArray := by kernel_rfl
theorem bt80_0_1 (a0 : Int) (a1 : Int) : Tryd.prog.built 80 [(0, .int .i64 a0), (1, .int .i64 a1)] = some [.int .i64 a0, .int .i64 a1].toArray := by kernel_rfl
theorem bt124_0_1 (a0 : Int) (a1 : Int) : Tryd.prog.built 124 [(0, .int .u64 a0), (1, .int .u64 a1)] = some [.int .u64 a0, .int .u64 a1].toArray := by kernel_rfl
theorem bt128_0_1_2_3 (a0 : Int) (a1 : Int) (a2 : Int) (a3 : Int) : Tryd.prog.built 128 [(0, .int .i64 a0), (1, .int .i64 a1), (2, .int .i64 a2), (3, .int .i64 a3)] = some [.int .i64 a0, .int .i64 a1, .int .i64 a2, .int .i64 a3].toArray := by kernel_rfl
theorem eqf23 : EqF Tryd.prog 23 (Fl.int .u16) 1 := EqF.int Tryd.underlying23
theorem eqf3 : EqF Tryd.prog 3 (Fl.int .i64) 1 := EqF.int Tryd.underlying3
theorem eqf5 : EqF Tryd.prog 5 (Fl.int .u8) 1 := EqF.int Tryd.underlying5
theorem eqf25 : EqF Tryd.prog 25 (Fl.arr 64 (Fl.int .u16)) 2 := EqF.arr Tryd.underlying25 (by unfold Sz; kernel_rfl) (by unfold Sz; kernel_rfl) eqf23
theorem eqf80 : EqF Tryd.prog 80 flFlaw 2 := EqF.struct (k := 1) (fun x y h => by cases x; cases y; simp_all) Tryd.underlying80 (by kernel_rfl) (by unfold Sz; kernel_rfl) ((EqFs.cons rfl (by decide) (eqf3.up (by decide)) (EqFs.one rfl (by decide) (eqf3.up (by decide)))))
theorem eqf82 : EqF Tryd.prog 82 (Fl.arr 8 (Fl.int .u8)) 2 := EqF.arr Tryd.underlying82 (by unfold Sz; kernel_rfl) (by unfold Sz; kernel_rfl) eqf5
theorem eqf116 : EqF Tryd.prog 116 (Fl.arr 96 (Fl.int .u8)) 2 := EqF.arr Tryd.underlying116 (by unfold Sz; kernel_rfl) (by unfold Sz; kernel_rfl) eqf5
theorem eqf56 : EqF Tryd.prog 56 (Fl.arr 8 (Fl.arr 64 (Fl.int .u16))) 3 := EqF.arr Tryd.underlying56 (by unfold Sz; kernel_rfl) (by unfold Sz; kernel_rfl) eqf25
theorem en19 : Enters Tryd.prog 19 := ⟨_, Tryd.func19, rfl, by kernel_rfl⟩
theorem en21 : Enters Tryd.prog 21 := ⟨_, Tryd.func21, rfl, by kernel_rfl⟩
theorem en22 : Enters Tryd.prog 22 := ⟨_, Tryd.func22, rfl, by kernel_rfl⟩
theorem en32 : Enters Tryd.prog 32 := ⟨_, Tryd.func32, rfl, by kernel_rfl⟩
theorem en33 : Enters Tryd.prog 33 := ⟨_, Tryd.func33, rfl, by kernel_rfl⟩
theorem en34 : Enters Tryd.prog 34 := ⟨_, Tryd.func34, rfl, by kernel_rfl⟩
theorem en37 : Enters Tryd.prog 37 := ⟨_, Tryd.func37, rfl, by kernel_rfl⟩
theorem en44 : Enters Tryd.prog 44 := ⟨_, Tryd.func44, rfl, by kernel_rfl⟩
theorem en45 : Enters Tryd.prog 45 := ⟨_, Tryd.func45, rfl, by kernel_rfl⟩
theorem en46 : Enters Tryd.prog 46 := ⟨_, Tryd.func46, rfl, by kernel_rfl⟩
theorem en47 : Enters Tryd.prog 47 := ⟨_, Tryd.func47, rfl, by kernel_rfl⟩
theorem en48 : Enters Tryd.prog 48 := ⟨_, Tryd.func48, rfl, by kernel_rfl⟩
theorem en49 : Enters Tryd.prog 49 := ⟨_, Tryd.func49, rfl, by kernel_rfl⟩
theorem en50 : Enters Tryd.prog 50 := ⟨_, Tryd.func50, rfl, by kernel_rfl⟩
theorem en51 : Enters Tryd.prog 51 := ⟨_, Tryd.func51, rfl, by kernel_rfl⟩
theorem en52 : Enters Tryd.prog 52 := ⟨_, Tryd.func52, rfl, by kernel_rfl⟩
theorem en53 : Enters Tryd.prog 53 := ⟨_, Tryd.func53, rfl, by kernel_rfl⟩
theorem en54 : Enters Tryd.prog 54 := ⟨_, Tryd.func54, rfl, by kernel_rfl⟩
theorem en55 : Enters Tryd.prog 55 := ⟨_, Tryd.func55, rfl, by kernel_rfl⟩
theorem en56 : Enters Tryd.prog 56 := ⟨_, Tryd.func56, rfl, by kernel_rfl⟩
theorem en57 : Enters Tryd.prog 57 := ⟨_, Tryd.func57, rfl, by kernel_rfl⟩
theorem en58 : Enters Tryd.prog 58 := ⟨_, Tryd.func58, rfl, by kernel_rfl⟩
theorem en59 : Enters Tryd.prog 59 := ⟨_, Tryd.func59, rfl, by kernel_rfl⟩
theorem en60 : Enters Tryd.prog 60 := ⟨_, Tryd.func60, rfl, by kernel_rfl⟩
theorem en61 : Enters Tryd.prog 61 := ⟨_, Tryd.func61, rfl, by kernel_rfl⟩
theorem en62 : Enters Tryd.prog 62 := ⟨_, Tryd.func62, rfl, by kernel_rfl⟩
theorem en63 : Enters Tryd.prog 63 := ⟨_, Tryd.func63, rfl, by kernel_rfl⟩
theorem en64 : Enters Tryd.prog 64 := ⟨_, Tryd.func64, rfl, by kernel_rfl⟩
theorem en65 : Enters Tryd.prog 65 := ⟨_, Tryd.func65, rfl, by kernel_rfl⟩
theorem en66 : Enters Tryd.prog 66 := ⟨_, Tryd.func66, rfl, by kernel_rfl⟩
theorem en67 : Enters Tryd.prog 67 := ⟨_, Tryd.func67, rfl, by kernel_rfl⟩
theorem en68 : Enters Tryd.prog 68 := ⟨_, Tryd.func68, rfl, by kernel_rfl⟩
theorem en69 : Enters Tryd.prog 69 := ⟨_, Tryd.func69, rfl, by kernel_rfl⟩
theorem en70 : Enters Tryd.prog 70 := ⟨_, Tryd.func70, rfl, by kernel_rfl⟩
theorem en71 : Enters Tryd.prog 71 := ⟨_, Tryd.func71, rfl, by kernel_rfl⟩
theorem en72 : Enters Tryd.prog 72 := ⟨_, Tryd.func72, rfl, by kernel_rfl⟩
theorem en73 : Enters Tryd.prog 73 := ⟨_, Tryd.func73, rfl, by kernel_rfl⟩
theorem en74 : Enters Tryd.prog 74 := ⟨_, Tryd.func74, rfl, by kernel_rfl⟩
theorem en77 : Enters Tryd.prog 77 := ⟨_, Tryd.func77, rfl, by kernel_rfl⟩
theorem en78 : Enters Tryd.prog 78 := ⟨_, Tryd.func78, rfl, by kernel_rfl⟩
theorem en80 : Enters Tryd.prog 80 := ⟨_, Tryd.func80, rfl, by kernel_rfl⟩
theorem en81 : Enters Tryd.prog 81 := ⟨_, Tryd.func81, rfl, by kernel_rfl⟩
theorem en83 : Enters Tryd.prog 83 := ⟨_, Tryd.func83, rfl, by kernel_rfl⟩
theorem en84 : Enters Tryd.prog 84 := ⟨_, Tryd.func84, rfl, by kernel_rfl⟩
theorem en85 : Enters Tryd.prog 85 := ⟨_, Tryd.func85, rfl, by kernel_rfl⟩
theorem en86 : Enters Tryd.prog 86 := ⟨_, Tryd.func86, rfl, by kernel_rfl⟩
theorem en87 : Enters Tryd.prog 87 := ⟨_, Tryd.func87, rfl, by kernel_rfl⟩
theorem en88 : Enters Tryd.prog 88 := ⟨_, Tryd.func88, rfl, by kernel_rfl⟩
theorem en89 : Enters Tryd.prog 89 := ⟨_, Tryd.func89, rfl, by kernel_rfl⟩
theorem en90 : Enters Tryd.prog 90 := ⟨_, Tryd.func90, rfl, by kernel_rfl⟩
theorem en91 : Enters Tryd.prog 91 := ⟨_, Tryd.func91, rfl, by kernel_rfl⟩
theorem en92 : Enters Tryd.prog 92 := ⟨_, Tryd.func92, rfl, by kernel_rfl⟩
theorem en93 : Enters Tryd.prog 93 := ⟨_, Tryd.func93, rfl, by kernel_rfl⟩
theorem en94 : Enters Tryd.prog 94 := ⟨_, Tryd.func94, rfl, by kernel_rfl⟩
theorem en95 : Enters Tryd.prog 95 := ⟨_, Tryd.func95, rfl, by kernel_rfl⟩
theorem en96 : Enters Tryd.prog 96 := ⟨_, Tryd.func96, rfl, by kernel_rfl⟩
theorem en97 : Enters Tryd.prog 97 := ⟨_, Tryd.func97, rfl, by kernel_rfl⟩
theorem en98 : Enters Tryd.prog 98 := ⟨_, Tryd.func98, rfl, by kernel_rfl⟩
theorem en99 : Enters Tryd.prog 99 := ⟨_, Tryd.func99, rfl, by kernel_rfl⟩
theorem en100 : Enters Tryd.prog 100 := ⟨_, Tryd.func100, rfl, by kernel_rfl⟩
theorem en101 : Enters Tryd.prog 101 := ⟨_, Tryd.func101, rfl, by kernel_rfl⟩
theorem en102 : Enters Tryd.prog 102 := ⟨_, Tryd.func102, rfl, by kernel_rfl⟩
theorem en103 : Enters Tryd.prog 103 := ⟨_, Tryd.func103, rfl, by kernel_rfl⟩
theorem en104 : Enters Tryd.prog 104 := ⟨_, Tryd.func104, rfl, by kernel_rfl⟩
theorem en105 : Enters Tryd.prog 105 := ⟨_, Tryd.func105, rfl, by kernel_rfl⟩
theorem en106 : Enters Tryd.prog 106 := ⟨_, Tryd.func106, rfl, by kernel_rfl⟩
theorem mixed : Tryd.prog.follows .mixedOrders = true := by kernel_rfl
end Go.Proofs.YtafgmocdnjdmoaaDoor.L
namespace Go.Proofs.YtafgmocdnjdmoaaDoor.L
open Go.RowKit Go.OB Go.Lf
/- slices.Clone[[]byte,byte] -/
set_option maxHeartbeats 4000000 in
theorem F_slices_Clone___byte_byte__w (p0 : List Int) (v1 : Value) (r : (List Int)) (hF : F_slices_Clone___byte_byte_ p0 = some r) (O S : List Nat) (w : World) (H : Hd O w w S [.fz (.sl (Rp.int .u8) v1 p0)]) :
    Calls Tryd.prog 60 ([v1] : List Value).toArray w fun e w' => ∃ u3, e = .returned (u3) ∧ Hd O w w' S [.own (Rp.int .u8) u3 5 r] := by
  unfold F_slices_Clone___byte_byte_ at hF
  refine calls_of_WP 8 Tryd.func60 rfl rfl rfl ?_
  refine WP_seq_k fun K4 hK4 => ?_
  refine WP_region ?_
  refine RL_do rfl rfl (Do_assign (v := .slice none 0 0) rfl) ?_
  refine (RL_nil (thenQ_n (hK4 _ _ ?_)))
  refine WP_seq_k fun K13 hK13 => ?_
  refine WP_seq_k fun K14 hK14 => ?_
  refine WP_region ?_
  refine RL_do rfl rfl (Do_move (v := v1) rfl) ?_
  obtain ⟨a15, c16, q17, e190⟩ := slf_nilq (H.item (i := 0) rfl)
  obtain ⟨x18, e19, hF⟩ := nilO_some hF e190
  refine RL_do rfl rfl (Do_as (Do_eqlnils u22 q17 rfl) (congrArg Value.bool e19)) ?_
  refine (RL_nil (thenQ_n (hK14 _ _ ?_)))
  refine WP_ifb (b := x18) rfl (fun c20 => ?_) (fun c20 => ?_)
  · have hF := iteB_t c20 hF
    refine WP_seq_k fun K21 hK21 => ?_
    refine WP_region ?_
    refine RL_do rfl rfl (Do_assign (v := .slice none 0 0) rfl) ?_
    refine (RL_nil (thenQ_n (hK21 _ _ ?_)))
    have H := own_nil H (Rp.int .u8) 5
    have hR := Option.some.inj hF
    subst hR
    refine (WP_ret (thenQ_r (post1 (v1 := .slice none 0 0) rfl rfl ?_)))
    exact ⟨.slice none 0 0, rfl, H.pick [1] (by decide)⟩
  · have hF := iteB_f c20 hF
    refine (WP_skip (thenQ_n (hK13 _ _ ?_)))
    refine WP_seq_k fun K23 hK23 => ?_
    refine WP_region ?_
    refine RL_ex rfl rfl (Lx_bs0 (r := (Rp.int .u8)) u22 el5 H) ?_
    rintro v25 w26 H
    refine RL_do rfl rfl (Do_move (v := v1) rfl) ?_
    obtain ⟨x27, e28, hF⟩ := bindO_some hF
    refine RL_ex rfl rfl (Lx_app H (i := 1) rfl u22 el5 rfl rfl (Sr.of_rd (H.item (i := 0) rfl)) e28) ?_
    rintro v29 w30 H
    refine RL_do rfl rfl (Do_assign (v := v29) rfl) ?_
    refine (RL_nil (thenQ_n (hK23 _ _ ?_)))
    have hR := Option.some.inj hF
    subst hR
    refine (WP_ret (post1 (v1 := v29) rfl rfl ?_))
    exact ⟨v29, rfl, H.pick [1] (by decide)⟩
end Go.Proofs.YtafgmocdnjdmoaaDoor.L
namespace Go.Proofs.YtafgmocdnjdmoaaDoor.L
open Go.RowKit Go.OB Go.Lf
/- orangebox/frame.wordIn -/
set_option maxHeartbeats 4000000 in
theorem F_frame_wordIn_w (p0 : Option (Arr 96 Int)) (p1 : Int) (v1 : Option Addr) (r : Int) (hF : F_frame_wordIn p0 p1 = some r) (O S : List Nat) (w : World) (H : Hd O w w S [.fz (.pt (Rp.fl (Fl.arr 96 (Fl.int .u8))) v1 p0)]) :
    Calls Tryd.prog 106 ([.pointer v1, .int .i64 p1] : List Value).toArray w fun e w' => e = .returned (.int .u16 r) ∧ Hd O w w' S [] := by
  unfold F_frame_wordIn at hF
  refine calls_of_WP 45 Tryd.func106 rfl rfl rfl ?_
  refine WP_seq_k fun K3 hK3 => ?_
  refine WP_region ?_
  refine RL_do rfl rfl (Do_assign (v := .int .u16 0) rfl) ?_
  refine (RL_nil (thenQ_n (hK3 _ _ ?_)))
  refine WP_seq_k fun K4 hK4 => ?_
  refine WP_region ?_
  refine RL_do rfl rfl (Do_move (v := .int .i64 p1) rfl) ?_
  obtain ⟨x5, e6, hF⟩ := bindO_some hF
  refine RL_do rfl rfl (Do_quo' (j := p1) (q := 2) rfl rfl e6) ?_
  obtain ⟨x7, e8, hF⟩ := letO_some hF
  refine RL_do rfl rfl (Do_mul (a := x5) (b := 3) rfl rfl e8) ?_
  refine RL_do rfl rfl (Do_assign (v := .int .i64 x7) rfl) ?_
  refine (RL_nil (thenQ_n (hK4 _ _ ?_)))
  refine WP_seq_k fun K57 hK57 => ?_
  refine WP_seq_k fun K58 hK58 => ?_
  refine WP_region ?_
  refine RL_do rfl rfl (Do_move (v := .int .i64 p1) rfl) ?_
  obtain ⟨x59, e60, hF⟩ := bindO_some hF
  refine RL_do rfl rfl (Do_rem' (j := p1) (q := 2) rfl rfl e60) ?_
  obtain ⟨x61, e62, hF⟩ := letO_some hF
  refine RL_do rfl rfl (Do_as (Do_eql (a := x59) (b := 0) rfl rfl) (congrArg Value.bool e62)) ?_
  refine (RL_nil (thenQ_n (hK58 _ _ ?_)))
  refine WP_ifb (b := x61) rfl (fun c63 => ?_) (fun c63 => ?_)
  · have hF := iteB_t c63 hF
    refine WP_seq_k fun K64 hK64 => ?_
    have H65 := H
    have H := H.rebase
    have H66 := H
    refine WP_mix0 H [0, 1, 2, 3, 4, 5, 6, 7, 8, 9, 10, 11, 12, 13, 14, 15, 16] [.pure, .pure, .pure, .pure, .read, .pure, .pure, .pure, .pure, .pure, .pure, .pure, .read, .pure, .pure, .pure, .pure] mixed (by kernel_rfl) (by kernel_rfl) (by kernel_rfl) rfl ?_
    refine Mx.XL_pure rfl rfl rfl (fun w' hw' => Do_move (v := .pointer v1) rfl) ?_
    refine Mx.XL_pure rfl rfl rfl (fun w' hw' => Do_move (v := .int .i64 x7) rfl) ?_
    obtain ⟨x67, e68, hF⟩ := bindO_some hF
    obtain ⟨b69, o70, cs71, q72, h73, h74, h75, h76⟩ := ptf_some ((H.item (i := 0) rfl) : PtF _ _ _ _ _) e68
    obtain rfl : cs71 = (Fl.arr 96 (Fl.int .u8)).f x67 := h75
    have H := H.fz (.at b69 o70 _) ⟨h73, h74, h76⟩
    refine Mx.XL_pure rfl rfl rfl (fun w' hw' => Do_nilCheck (ad := ⟨b69, o70, none⟩) (congrArg Value.pointer q72)) ?_
    obtain ⟨x78, e79, hF⟩ := bindO_some hF
    refine Mx.XL_pure rfl rfl rfl (fun w' hw' => Do_idxA (X := x67) u116 sz5 rfl rfl e79) ?_
    refine Mx.XL_read oS rfl rfl rfl (fun w' hw' => Do_load1 (v := .int .u8 x78) one5 rfl (Cells.ix (e := (Fl.int .u8)) (x := x67) ((H.sees hw').item (i := 1) rfl).2.2 e79)) ?_
    obtain ⟨x80, e81, hF⟩ := letO_some hF
    refine Mx.XL_pure rfl rfl rfl (fun w' hw' => Do_conv u5 u23 rfl e81) ?_
    obtain ⟨x82, e83, hF⟩ := bindO_some hF
    refine Mx.XL_pure rfl rfl rfl (fun w' hw' => Do_shl' (j := x80) (q := 4) rfl rfl e83) ?_
    refine Mx.XL_pure rfl rfl rfl (fun w' hw' => Do_move (v := .pointer v1) rfl) ?_
    refine Mx.XL_pure rfl rfl rfl (fun w' hw' => Do_move (v := .int .i64 x7) rfl) ?_
    obtain ⟨x84, e85, hF⟩ := letO_some hF
    refine Mx.XL_pure rfl rfl rfl (fun w' hw' => Do_add (a := x7) (b := 1) rfl rfl e85) ?_
    obtain ⟨x86, e87, hF⟩ := bindO_some hF
    obtain ⟨b88, o89, cs90, q91, h92, h93, h94, h95⟩ := ptf_some ((H.item (i := 0) rfl) : PtF _ _ _ _ _) e87
    obtain rfl : cs90 = (Fl.arr 96 (Fl.int .u8)).f x86 := h94
    have H := H.fz (.at b88 o89 _) ⟨h92, h93, h95⟩
    refine Mx.XL_pure rfl rfl rfl (fun w' hw' => Do_nilCheck (ad := ⟨b88, o89, none⟩) (congrArg Value.pointer q91)) ?_
    obtain ⟨x97, e98, hF⟩ := bindO_some hF
    refine Mx.XL_pure rfl rfl rfl (fun w' hw' => Do_idxA (X := x86) u116 sz5 rfl rfl e98) ?_
    refine Mx.XL_read oS rfl rfl rfl (fun w' hw' => Do_load1 (v := .int .u8 x97) one5 rfl (Cells.ix (e := (Fl.int .u8)) (x := x86) ((H.sees hw').item (i := 2) rfl).2.2 e98)) ?_
    obtain ⟨x99, e100, hF⟩ := letO_some hF
    refine Mx.XL_pure rfl rfl rfl (fun w' hw' => Do_conv u5 u23 rfl e100) ?_
    obtain ⟨x101, e102, hF⟩ := bindO_some hF
    refine Mx.XL_pure rfl rfl rfl (fun w' hw' => Do_shr' (j := x99) (q := 4) rfl rfl e102) ?_
    obtain ⟨x103, e104, hF⟩ := letO_some hF
    refine Mx.XL_pure rfl rfl rfl (fun w' hw' => Do_or (a := x82) (b := x101) rfl rfl e104) ?_
    refine Mx.XL_pure rfl rfl rfl (fun w' hw' => Do_assign (v := .int .u16 x103) rfl) ?_
    refine Mx.XL_nil fun w105 hS => ?_
    have H := H.sees hS
    have H := H65.rejoin H
    refine (thenQ_n (hK64 _ _ ?_))
    have hR := Option.some.inj hF
    subst hR
    refine (WP_ret (thenQ_r (post1 (v1 := .int .u16 x103) rfl rfl ?_)))
    exact ⟨rfl, H.pick [] (by decide)⟩
  · have hF := iteB_f c63 hF
    refine (WP_skip (thenQ_n (hK57 _ _ ?_)))
    refine WP_seq_k fun K106 hK106 => ?_
    have H107 := H
    have H := H.rebase
    have H108 := H
    refine WP_mix0 H [0, 1, 2, 3, 4, 5, 6, 7, 8, 9, 10, 11, 12, 13, 14, 15, 16, 17] [.pure, .pure, .pure, .pure, .pure, .read, .pure, .pure, .pure, .pure, .pure, .pure, .pure, .pure, .read, .pure, .pure, .pure] mixed (by kernel_rfl) (by kernel_rfl) (by kernel_rfl) rfl ?_
    refine Mx.XL_pure rfl rfl rfl (fun w' hw' => Do_move (v := .pointer v1) rfl) ?_
    refine Mx.XL_pure rfl rfl rfl (fun w' hw' => Do_move (v := .int .i64 x7) rfl) ?_
    obtain ⟨x109, e110, hF⟩ := letO_some hF
    refine Mx.XL_pure rfl rfl rfl (fun w' hw' => Do_add (a := x7) (b := 1) rfl rfl e110) ?_
    obtain ⟨x111, e112, hF⟩ := bindO_some hF
    obtain ⟨b113, o114, cs115, q116, h117, h118, h119, h120⟩ := ptf_some ((H.item (i := 0) rfl) : PtF _ _ _ _ _) e112
    obtain rfl : cs115 = (Fl.arr 96 (Fl.int .u8)).f x111 := h119
    have H := H.fz (.at b113 o114 _) ⟨h117, h118, h120⟩
    refine Mx.XL_pure rfl rfl rfl (fun w' hw' => Do_nilCheck (ad := ⟨b113, o114, none⟩) (congrArg Value.pointer q116)) ?_
    obtain ⟨x122, e123, hF⟩ := bindO_some hF
    refine Mx.XL_pure rfl rfl rfl (fun w' hw' => Do_idxA (X := x111) u116 sz5 rfl rfl e123) ?_
    refine Mx.XL_read oS rfl rfl rfl (fun w' hw' => Do_load1 (v := .int .u8 x122) one5 rfl (Cells.ix (e := (Fl.int .u8)) (x := x111) ((H.sees hw').item (i := 1) rfl).2.2 e123)) ?_
    obtain ⟨x124, e125, hF⟩ := letO_some hF
    refine Mx.XL_pure rfl rfl rfl (fun w' hw' => Do_conv u5 u23 rfl e125) ?_
    obtain ⟨x126, e127, hF⟩ := letO_some hF
    refine Mx.XL_pure rfl rfl rfl (fun w' hw' => Do_and (a := x124) (b := 15) rfl rfl e127) ?_
    obtain ⟨x128, e129, hF⟩ := bindO_some hF
    refine Mx.XL_pure rfl rfl rfl (fun w' hw' => Do_shl' (j := x126) (q := 8) rfl rfl e129) ?_
    refine Mx.XL_pure rfl rfl rfl (fun w' hw' => Do_move (v := .pointer v1) rfl) ?_
    refine Mx.XL_pure rfl rfl rfl (fun w' hw' => Do_move (v := .int .i64 x7) rfl) ?_
    obtain ⟨x130, e131, hF⟩ := letO_some hF
    refine Mx.XL_pure rfl rfl rfl (fun w' hw' => Do_add (a := x7) (b := 2) rfl rfl e131) ?_
    obtain ⟨x132, e133, hF⟩ := bindO_some hF
    obtain ⟨b134, o135, cs136, q137, h138, h139, h140, h141⟩ := ptf_some ((H.item (i := 0) rfl) : PtF _ _ _ _ _) e133
    obtain rfl : cs136 = (Fl.arr 96 (Fl.int .u8)).f x132 := h140
    have H := H.fz (.at b134 o135 _) ⟨h138, h139, h141⟩
    refine Mx.XL_pure rfl rfl rfl (fun w' hw' => Do_nilCheck (ad := ⟨b134, o135, none⟩) (congrArg Value.pointer q137)) ?_
    obtain ⟨x143, e144, hF⟩ := bindO_some hF
    refine Mx.XL_pure rfl rfl rfl (fun w' hw' => Do_idxA (X := x132) u116 sz5 rfl rfl e144) ?_
    refine Mx.XL_read oS rfl rfl rfl (fun w' hw' => Do_load1 (v := .int .u8 x143) one5 rfl (Cells.ix (e := (Fl.int .u8)) (x := x132) ((H.sees hw').item (i := 2) rfl).2.2 e144)) ?_
    obtain ⟨x145, e146, hF⟩ := letO_some hF
    refine Mx.XL_pure rfl rfl rfl (fun w' hw' => Do_conv u5 u23 rfl e146) ?_
    obtain ⟨x147, e148, hF⟩ := letO_some hF
    refine Mx.XL_pure rfl rfl rfl (fun w' hw' => Do_or (a := x128) (b := x145) rfl rfl e148) ?_
    refine Mx.XL_pure rfl rfl rfl (fun w' hw' => Do_assign (v := .int .u16 x147) rfl) ?_
    refine Mx.XL_nil fun w149 hS => ?_
    have H := H.sees hS
    have H := H107.rejoin H
    refine (thenQ_n (hK106 _ _ ?_))
    have hR := Option.some.inj hF
    subst hR
    refine (WP_ret (post1 (v1 := .int .u16 x147) rfl rfl ?_))
    exact ⟨rfl, H.pick [] (by decide)⟩
end Go.Proofs.YtafgmocdnjdmoaaDoor.L
namespace Go.Proofs.YtafgmocdnjdmoaaDoor.L
open Go.RowKit Go.OB Go.Lf
/- orangebox/frame.load -/
set_option maxHeartbeats 4000000 in
theorem F_frame_load_w (p0 : Option (Arr 96 Int)) (v1 : Option Addr) (r : (Arr 64 Int)) (hF : F_frame_load p0 = some r) (O S : List Nat) (w : World) (H : Hd O w w S [.fz (.pt (Rp.fl (Fl.arr 96 (Fl.int .u8))) v1 p0)]) :
    Calls Tryd.prog 94 ([.pointer v1] : List Value).toArray w fun e w' => e = .returned (.agg ((Fl.arr 64 (Fl.int .u16)).f r).toArray) ∧ Hd O w w' S [] := by
  unfold F_frame_load at hF
  refine calls_of_WP 15 Tryd.func94 rfl rfl rfl ?_
  refine WP_seq_k fun K3 hK3 => ?_
  refine WP_region ?_
  refine RL_ex rfl rfl (Lx_alloc zero25 H) ?_
  rintro _ w6 ⟨b4, rfl, H⟩
  refine (RL_nil (thenQ_n (hK3 _ _ ?_)))
  refine WP_seq_k fun K7 hK7 => ?_
  refine WP_region ?_
  refine RL_ex rfl rfl (Lx_alloc zero25 H) ?_
  rintro _ w10 ⟨b8, rfl, H⟩
  refine (RL_nil (thenQ_n (hK7 _ _ ?_)))
  obtain ⟨g82, hF, hK84⟩ := bindO_some hF
  refine WP_seqS [4, 5, 6, 7, 8, 9, 10, 11, 12, 13] (fun (g : Unit) => []) (fun g wl => Hd O w wl S [.blk b4 ((Fl.arr 64 (Fl.int .u16)).f (Arr.rep 64 0 : Arr 64 Int)) 25, .blk b8 ((Fl.arr 64 (Fl.int .u16)).f g82) 25]) ?_ ?_
  · skip
    refine WP_seq_k fun K85 hK85 => ?_
    refine WP_region ?_
    refine RL_do rfl rfl (Do_move (v := .int .i64 0) rfl) ?_
    refine (RL_nil (thenQ_n (hK85 _ _ ?_)))
    refine WP_block ?_
    unfold F_frame_load_L1 at hF
    obtain ⟨B152, n153, eB154, hF⟩ := loopO_some hF
    refine WP_loopS [4, 5, 6, 7, 8, 9, 10, 11, 12, 13] (fun (g : Nat × Int × (Arr 64 Int)) => [(5, .int .i64 g.2.1)]) (fun g wl => Hd O w wl S [.fz (.pt (Rp.fl (Fl.arr 96 (Fl.int .u8))) v1 p0), .blk b4 ((Fl.arr 64 (Fl.int .u16)).f (Arr.rep 64 0 : Arr 64 Int)) 25, .blk b8 ((Fl.arr 64 (Fl.int .u16)).f g.2.2) 25] ∧ loopN B152 g.1 (g.2.1, g.2.2) = some g82) (fun g => g.1) (n153, 0, (Arr.rep 64 0 : Arr 64 Int)) (Sl_cons rfl Sl_nil) ⟨H.pick [0, 1, 2] (by decide), hF⟩ ?_
    clear H hF
    rintro ⟨n153, g150, g151⟩ ρ w156 ⟨H, hF⟩
    obtain ⟨n157, rfl, hF⟩ := loopN_pos hF
    have hF := loop_body eB154 hF
    refine WP_seq_k fun K158 hK158 => ?_
    refine WP_region ?_
    obtain ⟨x159, e160, hF⟩ := letO_some hF
    refine RL_do rfl rfl (Do_as (Do_lss (a := g150) (b := 64) rfl rfl) (congrArg Value.bool e160)) ?_
    refine (RL_nil (thenQ_n (hK158 _ _ ?_)))
    refine WP_seq_k fun K162 hK162 => ?_
    refine WP_ifb (b := x159) rfl (fun c163 => ?_) (fun c163 => ?_)
    · have hF := iteB_t c163 hF
      refine (WP_skip (thenQ_n (hK162 _ _ ?_)))
      refine WP_seq_k fun K175 hK175 => ?_
      refine WP_block ?_
      refine WP_seq_k fun K176 hK176 => ?_
      refine WP_region ?_
      refine RL_do rfl rfl (Do_move (v := .int .i64 g150) rfl) ?_
      refine RL_do rfl rfl (Do_assign (v := .int .i64 g150) rfl) ?_
      refine (RL_nil (thenQ_n (hK176 _ _ ?_)))
      refine WP_region ?_
      refine RL_do rfl rfl (Do_move (v := .int .i64 g150) rfl) ?_
      refine RL_do rfl rfl (Do_move (v := .pointer v1) rfl) ?_
      refine RL_do rfl rfl (Do_move (v := .int .i64 g150) rfl) ?_
      have H177 := H
      obtain ⟨x178, e179, hF⟩ := bindO_some hF
      refine RL_call rfl rfl (DoC_func en106 rfl) (F_frame_wordIn_w p0 g150 v1 _ e179 _ _ _ (H.enter [] [0] (by decide) rfl)) ?_
      rintro _ w180 ⟨rfl, G181⟩
      have H := H177.step (G181.only : Only [] _ _)
      refine ⟨_, rfl, ?_⟩
      obtain ⟨x182, e183, hF⟩ := bindO_some hF
      refine RL_do rfl rfl (Do_idxA (X := g151) u25 sz23 rfl rfl e183) ?_
      obtain ⟨x184, e185, hF⟩ := letO_some hF
      refine RL_exU rfl (Lx_storeA (e := (Fl.int .u16)) (X := g151) (a := x178) (j := g150) H 2 rfl sz23 rfl (v := .int .u16 x178) rfl rfl (Arr.at_lt e183).1 (Arr.at_lt e183).2 e185) ?_
      rintro w186 H
      refine (RL_nil (blockQ_n (thenQ_n (hK175 _ _ ?_))))
      refine WP_region ?_
      obtain ⟨x187, e188, hF⟩ := letO_some hF
      refine RL_do rfl rfl (Do_add (a := g150) (b := 1) rfl rfl e188) ?_
      refine RL_do rfl rfl (Do_move (v := .int .i64 x187) rfl) ?_
      refine (RL_nil (thenQ_n (And.intro ?_ ?_)))
      · repeat' (first | with_reducible exact Fr_refl | refine Fr_upd rfl ?_ | refine Fr_over rfl rfl ?_)
      · exact ⟨(n157, x187, x184), (Sl_cons rfl Sl_nil), ⟨H.pick [0, 1, 2] (by decide), hF⟩, Nat.lt_succ_self _⟩
    · have hF := iteB_f c163 hF
      have hR := Option.some.inj hF
      subst hR
      refine (WP_exit (thenQ_x (thenQ_x (blockQ_eq (thenQ_n (And.intro ?_ ?_))))))
      · repeat' (first | with_reducible exact Fr_refl | refine Fr_upd rfl ?_ | refine Fr_over rfl rfl ?_)
      · exact ⟨(), Sl_nil, H.pick [1, 2] (by decide)⟩
  · rintro _ ρ w83 H
    have hF := hK84
    refine WP_seq_k fun K189 hK189 => ?_
    refine WP_region ?_
    refine RL_do rfl rfl (Do_loadF (e := (Fl.arr 64 (Fl.int .u16))) (a := g82) agg25 rfl sz25 (Blk.cells (H.item (i := 1) rfl))) ?_
    refine RL_exU rfl (Lx_storeW (e := (Fl.arr 64 (Fl.int .u16))) (a := (Arr.rep 64 0 : Arr 64 Int)) (a' := g82) H 0 rfl sz25 rfl rfl) ?_
    rintro w190 H
    refine (RL_nil (thenQ_n (hK189 _ _ ?_)))
    have hR := Option.some.inj hF
    subst hR
    refine (WP_ret (postc  rfl rfl (run_loadVar_agg agg25 sz25 (Fl.len _ _) (Blk.cells (H.item (i := 0) rfl))) ?_))
    exact ⟨rfl, H.pick [] (by decide)⟩
end Go.Proofs.YtafgmocdnjdmoaaDoor.L
namespace Go.Proofs.YtafgmocdnjdmoaaDoor.L
open Go.RowKit Go.OB Go.Lf
/- orangebox/frame.FromBytes -/
set_option maxHeartbeats 4000000 in
theorem F_frame_FromBytes_w (p0 : List Int) (v1 : Value) (r : (Arr 64 Int) × Int) (hF : F_frame_FromBytes p0 = some r) (O S : List Nat) (w : World) (H : Hd O w w S [.fz (.sl (Rp.int .u8) v1 p0)]) :
    Calls Tryd.prog 37 ([v1] : List Value).toArray w fun e w' => e = .returned (.tuple #[.agg ((Fl.arr 64 (Fl.int .u16)).f r.1).toArray, .int .i64 r.2]) ∧ Hd O w w' S [] := by
  unfold F_frame_FromBytes at hF
  refine calls_of_WP 14 Tryd.func37 rfl rfl rfl ?_
  refine WP_seq_k fun K3 hK3 => ?_
  refine WP_region ?_
  refine RL_ex rfl rfl (Lx_alloc zero25 H) ?_
  rintro _ w6 ⟨b4, rfl, H⟩
  refine RL_do rfl rfl (Do_assign (v := .int .i64 0) rfl) ?_
  refine (RL_nil (thenQ_n (hK3 _ _ ?_)))
  refine WP_seq_k fun K18 hK18 => ?_
  refine WP_seq_k fun K19 hK19 => ?_
  refine WP_region ?_
  refine RL_do rfl rfl (Do_move (v := v1) rfl) ?_
  obtain ⟨x20, e21, hF⟩ := letO_some hF
  obtain ⟨a22, c23, q24⟩ := SlF.len ((H.item (i := 0) rfl))
  refine RL_do rfl rfl (Do_as (Do_len u22 q24) (congrArg (Value.int .i64) e21)) ?_
  obtain ⟨x25, e26, hF⟩ := letO_some hF
  refine RL_do rfl rfl (Do_as (Do_lss (a := x20) (b := 96) rfl rfl) (congrArg Value.bool e26)) ?_
  refine (RL_nil (thenQ_n (hK19 _ _ ?_)))
  refine WP_ifb (b := x25) rfl (fun c27 => ?_) (fun c27 => ?_)
  · have hF := iteB_t c27 hF
    refine WP_seq_k fun K28 hK28 => ?_
    refine WP_region ?_
    refine RL_do rfl rfl (Do_build (cs := (Fl.arr 64 (Fl.int .u16)).f (Arr.rep 64 0 : Arr 64 Int)) bz25) ?_
    refine RL_exU rfl (Lx_storeW (e := (Fl.arr 64 (Fl.int .u16))) (a := (Arr.rep 64 0 : Arr 64 Int)) (a' := (Arr.rep 64 0 : Arr 64 Int)) H 1 rfl sz25 rfl rfl) ?_
    rintro w29 H
    refine RL_do rfl rfl (Do_assign (v := .int .i64 3) rfl) ?_
    refine (RL_nil (thenQ_n (hK28 _ _ ?_)))
    have hR := Option.some.inj hF
    subst hR
    refine (WP_ret (thenQ_r (postc1 (v1 := .int .i64 3) rfl rfl (run_loadVar_agg agg25 sz25 (Fl.len _ _) (Blk.cells (H.item (i := 1) rfl))) rfl ?_)))
    exact ⟨rfl, H.pick [] (by decide)⟩
  · have hF := iteB_f c27 hF
    refine (WP_skip (thenQ_n (hK18 _ _ ?_)))
    refine WP_seq_k fun K30 hK30 => ?_
    refine WP_region ?_
    refine RL_do rfl rfl (Do_move (v := v1) rfl) ?_
    obtain ⟨x31, e32, hF⟩ := bindO_some hF
    refine RL_exP rfl rfl (Lx_slice_h u22 sz5 (H.item (i := 0) rfl) rfl rfl e32) ?_
    rintro v33 h34
    have H := H.fz (.sl (Rp.int .u8) v33 x31) h34
    obtain ⟨x36, e37, hF⟩ := bindO_some hF
    obtain ⟨b38, o39, h40, h41, h42, h43⟩ := Lx_toArr (e := (Fl.int .u8)) (r := (Rp.int .u8)) (fun _ _ _ _ => Iff.rfl) rfl (H.item (i := 2) rfl) e37 (by decide)
    have H := H.fz (.at b38 o39 _) ⟨h41, h42, h43⟩
    refine RL_do rfl rfl (Do_toArrF u116 rfl h40 e37) ?_
    refine RL_do rfl rfl (Do_loadF (e := (Fl.arr 96 (Fl.int .u8))) (a := x36) agg116 rfl sz116 (H.item (i := 3) rfl).2.2) ?_
    refine RL_ex rfl rfl (Lx_alloc zero116 H) ?_
    rintro _ w47 ⟨b45, rfl, H⟩
    refine RL_exU rfl (Lx_storeW (e := (Fl.arr 96 (Fl.int .u8))) (a := (Arr.rep 96 0 : Arr 96 Int)) (a' := x36) H 4 rfl sz116 rfl rfl) ?_
    rintro w48 H
    refine (RL_nil (thenQ_n (hK30 _ _ ?_)))
    refine WP_seq_k fun K49 hK49 => ?_
    refine WP_region ?_
    have H50 := H
    have H := H.freezeB (i := 4) rfl
    have H := H.fz (.pt (Rp.fl (Fl.arr 96 (Fl.int .u8))) (some ⟨b45, 0, none⟩) (some x36)) ⟨_, _, _, rfl, (H.item (i := 4) rfl).1, (H.item (i := 4) rfl).2.1, rfl, (H.item (i := 4) rfl).2.2⟩
    obtain ⟨x52, e53, hF⟩ := bindO_some hF
    refine RL_call rfl rfl (DoC_func en94 rfl) (F_frame_load_w (some x36) (some ⟨b45, 0, none⟩) _ e53 _ _ _ (H.enter [] [5] (by decide) rfl)) ?_
    rintro _ w54 ⟨rfl, G55⟩
    have H := H50.step (G55.only : Only [] _ _)
    refine ⟨_, rfl, ?_⟩
    refine RL_exU rfl (Lx_storeW (e := (Fl.arr 64 (Fl.int .u16))) (a := (Arr.rep 64 0 : Arr 64 Int)) (a' := x52) H 1 rfl sz25 rfl rfl) ?_
    rintro w56 H
    refine RL_do rfl rfl (Do_assign (v := .int .i64 0) rfl) ?_
    refine (RL_nil (thenQ_n (hK49 _ _ ?_)))
    have hR := Option.some.inj hF
    subst hR
    refine (WP_ret (postc1 (v1 := .int .i64 0) rfl rfl (run_loadVar_agg agg25 sz25 (Fl.len _ _) (Blk.cells (H.item (i := 1) rfl))) rfl ?_))
    exact ⟨rfl, H.pick [] (by decide)⟩
end Go.Proofs.YtafgmocdnjdmoaaDoor.L
namespace Go.Proofs.YtafgmocdnjdmoaaDoor.L
open Go.RowKit Go.OB Go.Lf
/- orangebox/orangeboxref1.frame -/
set_option maxHeartbeats 4000000 in
theorem F_ref1_frame_w (p0 : List Int) (v1 : Value) (r : (Arr 64 Int)) (hF : F_ref1_frame p0 = some r) (O S : List Nat) (w : World) (H : Hd O w w S [.fz (.sl (Rp.int .u8) v1 p0)]) :
    Calls Tryd.prog 81 ([v1] : List Value).toArray w fun e w' => e = .returned (.agg ((Fl.arr 64 (Fl.int .u16)).f r).toArray) ∧ Hd O w w' S [] := by
  unfold F_ref1_frame at hF
  refine calls_of_WP 48 Tryd.func81 rfl rfl rfl ?_
  refine WP_seq_k fun K3 hK3 => ?_
  refine WP_region ?_
  refine RL_ex rfl rfl (Lx_alloc zero25 H) ?_
  rintro _ w6 ⟨b4, rfl, H⟩
  refine (RL_nil (thenQ_n (hK3 _ _ ?_)))
  refine WP_seq_k fun K7 hK7 => ?_
  refine WP_region ?_
  refine RL_do rfl rfl (Do_build (cs := (Fl.arr 64 (Fl.int .u16)).f (Arr.rep 64 0 : Arr 64 Int)) bz25) ?_
  refine RL_ex rfl rfl (Lx_alloc zero25 H) ?_
  rintro _ w10 ⟨b8, rfl, H⟩
  refine RL_exU rfl (Lx_storeW (e := (Fl.arr 64 (Fl.int .u16))) (a := (Arr.rep 64 0 : Arr 64 Int)) (a' := (Arr.rep 64 0 : Arr 64 Int)) H 2 rfl sz25 rfl rfl) ?_
  rintro w11 H
  refine (RL_nil (thenQ_n (hK7 _ _ ?_)))
  obtain ⟨g619, hF, hK621⟩ := bindO_some hF
  refine WP_seqS [4, 5, 6, 7, 9, 10, 11, 12, 13, 14, 15, 16, 17, 18, 19, 20, 21, 22, 23, 24, 25, 26, 27, 28, 29, 30, 31, 32, 33, 34, 35, 36, 37, 38, 39, 40, 41, 42, 43, 44, 45, 46] (fun (g : Unit) => []) (fun g wl => Hd O w wl S [.blk b4 ((Fl.arr 64 (Fl.int .u16)).f (Arr.rep 64 0 : Arr 64 Int)) 25, .blk b8 ((Fl.arr 64 (Fl.int .u16)).f g619) 25]) ?_ ?_
  · skip
    refine WP_seq_k fun K622 hK622 => ?_
    refine WP_region ?_
    refine RL_do rfl rfl (Do_move (v := .int .i64 0) rfl) ?_
    refine (RL_nil (thenQ_n (hK622 _ _ ?_)))
    refine WP_block ?_
    unfold F_ref1_frame_L1 at hF
    obtain ⟨B1225, n1226, eB1227, hF⟩ := loopO_some hF
    refine WP_loopS [4, 5, 6, 7, 9, 10, 11, 12, 13, 14, 15, 16, 17, 18, 19, 20, 21, 22, 23, 24, 25, 26, 27, 28, 29, 30, 31, 32, 33, 34, 35, 36, 37, 38, 39, 40, 41, 42, 43, 44, 45, 46] (fun (g : Nat × Int × (Arr 64 Int)) => [(9, .int .i64 g.2.1)]) (fun g wl => Hd O w wl S [.fz (.sl (Rp.int .u8) v1 p0), .blk b4 ((Fl.arr 64 (Fl.int .u16)).f (Arr.rep 64 0 : Arr 64 Int)) 25, .blk b8 ((Fl.arr 64 (Fl.int .u16)).f g.2.2) 25] ∧ loopN B1225 g.1 (g.2.1, g.2.2) = some g619) (fun g => g.1) (n1226, 0, (Arr.rep 64 0 : Arr 64 Int)) (Sl_cons rfl Sl_nil) ⟨H.pick [0, 1, 2] (by decide), hF⟩ ?_
    clear H hF
    rintro ⟨n1226, g1223, g1224⟩ ρ w1229 ⟨H, hF⟩
    obtain ⟨n1230, rfl, hF⟩ := loopN_pos hF
    have hF := loop_body eB1227 hF
    refine WP_seq_k fun K1231 hK1231 => ?_
    refine WP_region ?_
    obtain ⟨x1232, e1233, hF⟩ := letO_some hF
    refine RL_do rfl rfl (Do_as (Do_lss (a := g1223) (b := 64) rfl rfl) (congrArg Value.bool e1233)) ?_
    refine (RL_nil (thenQ_n (hK1231 _ _ ?_)))
    refine WP_seq_k fun K1235 hK1235 => ?_
    refine WP_ifb (b := x1232) rfl (fun c1236 => ?_) (fun c1236 => ?_)
    · have hF := iteB_t c1236 hF
      refine (WP_skip (thenQ_n (hK1235 _ _ ?_)))
      obtain ⟨g1525, hF, hK1527⟩ := bindO_some hF
      refine WP_seqS [4, 5, 6, 7, 11, 12, 13, 14, 15, 16, 17, 18, 19, 20, 21, 22, 23, 24, 25, 26, 27, 28, 29, 30, 31, 32, 33, 34, 35, 36, 37, 38, 39, 40, 41, 42, 43, 44, 45] (fun (g : Unit) => []) (fun g wl => Hd O w wl S [.fz (.sl (Rp.int .u8) v1 p0), .blk b4 ((Fl.arr 64 (Fl.int .u16)).f (Arr.rep 64 0 : Arr 64 Int)) 25, .blk b8 ((Fl.arr 64 (Fl.int .u16)).f g1525) 25]) ?_ ?_
      · skip
        refine WP_block ?_
        refine WP_seq_k fun K1528 hK1528 => ?_
        refine WP_region ?_
        refine RL_do rfl rfl (Do_move (v := .int .i64 g1223) rfl) ?_
        refine RL_do rfl rfl (Do_assign (v := .int .i64 g1223) rfl) ?_
        refine (RL_nil (thenQ_n (hK1528 _ _ ?_)))
        refine WP_seq_k fun K1529 hK1529 => ?_
        refine WP_region ?_
        refine RL_do rfl rfl (Do_move (v := .int .i64 0) rfl) ?_
        refine (RL_nil (thenQ_n (hK1529 _ _ ?_)))
        refine WP_block ?_
        unfold F_ref1_frame_L2 at hF
        obtain ⟨B1812, n1813, eB1814, hF⟩ := loopO_some hF
        refine WP_loopS [5, 6, 7, 12, 13, 14, 15, 16, 17, 18, 19, 20, 21, 22, 23, 24, 25, 26, 27, 28, 29, 30, 31, 32, 33, 34, 35, 36, 37, 38, 39, 40, 41, 42, 43, 44, 45] (fun (g : Nat × Int × (Arr 64 Int)) => [(12, .int .i64 g.2.1)]) (fun g wl => Hd O w wl S [.fz (.sl (Rp.int .u8) v1 p0), .blk b4 ((Fl.arr 64 (Fl.int .u16)).f (Arr.rep 64 0 : Arr 64 Int)) 25, .blk b8 ((Fl.arr 64 (Fl.int .u16)).f g.2.2) 25] ∧ loopN B1812 g.1 (g.2.1, g.2.2) = some g1525) (fun g => g.1) (n1813, 0, g1224) (Sl_cons rfl Sl_nil) ⟨H.pick [0, 1, 2] (by decide), hF⟩ ?_
        clear H hF
        rintro ⟨n1813, g1810, g1811⟩ ρ w1816 ⟨H, hF⟩
        obtain ⟨n1817, rfl, hF⟩ := loopN_pos hF
        have hF := loop_body eB1814 hF
        refine WP_seq_k fun K1818 hK1818 => ?_
        refine WP_region ?_
        obtain ⟨x1819, e1820, hF⟩ := letO_some hF
        refine RL_do rfl rfl (Do_as (Do_lss (a := g1810) (b := 3) rfl rfl) (congrArg Value.bool e1820)) ?_
        refine (RL_nil (thenQ_n (hK1818 _ _ ?_)))
        refine WP_seq_k fun K1822 hK1822 => ?_
        refine WP_ifb (b := x1819) rfl (fun c1823 => ?_) (fun c1823 => ?_)
        · have hF := iteB_t c1823 hF
          refine (WP_skip (thenQ_n (hK1822 _ _ ?_)))
          refine WP_seq_k fun K1889 hK1889 => ?_
          refine WP_block ?_
          refine WP_seq_k fun K1890 hK1890 => ?_
          refine WP_region ?_
          refine RL_do rfl rfl (Do_move (v := .int .i64 g1810) rfl) ?_
          refine RL_do rfl rfl (Do_assign (v := .int .i64 g1810) rfl) ?_
          refine (RL_nil (thenQ_n (hK1890 _ _ ?_)))
          refine WP_seq_k fun K1891 hK1891 => ?_
          refine WP_region ?_
          refine RL_do rfl rfl (Do_move (v := .int .i64 g1223) rfl) ?_
          obtain ⟨x1892, e1893, hF⟩ := letO_some hF
          refine RL_do rfl rfl (Do_mul (a := 3) (b := g1223) rfl rfl e1893) ?_
          refine RL_do rfl rfl (Do_move (v := .int .i64 g1810) rfl) ?_
          obtain ⟨x1894, e1895, hF⟩ := letO_some hF
          refine RL_do rfl rfl (Do_add (a := x1892) (b := g1810) rfl rfl e1895) ?_
          refine RL_do rfl rfl (Do_assign (v := .int .i64 x1894) rfl) ?_
          refine (RL_nil (thenQ_n (hK1891 _ _ ?_)))
          refine WP_seq_k fun K1896 hK1896 => ?_
          refine WP_region ?_
          refine RL_do rfl rfl (Do_move (v := v1) rfl) ?_
          refine RL_do rfl rfl (Do_move (v := .int .i64 x1894) rfl) ?_
          obtain ⟨x1897, e1898, hF⟩ := bindO_some hF
          refine RL_do rfl rfl (Do_quo' (j := x1894) (q := 2) rfl rfl e1898) ?_
          obtain ⟨x1899, e1900, hF⟩ := bindO_some hF
          obtain ⟨b1901, o1902, c1903, cs1904, q1905, h1908, h1906, h1907, h1909⟩ := rd_at (H.item (i := 0) rfl) e1900
          obtain rfl : cs1904 = [.int .u8 x1899] := h1908
          have H := H.fz (.at b1901 (o1902 + x1897.toNat * 1) _) ⟨h1906, h1907, h1909⟩
          refine RL_do rfl rfl (Do_idx u22 sz5 q1905 rfl (at_some e1900).1 (at_some e1900).2.1 rfl rfl) ?_
          refine RL_do rfl rfl (Do_load one5 rfl (Cells.get (H.item (i := 3) rfl).2.2 (i := 0) rfl)) ?_
          obtain ⟨x1911, e1912, hF⟩ := letO_some hF
          refine RL_do rfl rfl (Do_conv u5 u3 rfl e1912) ?_
          obtain ⟨x1913, e1914, hF⟩ := bindO_some hF
          refine RL_do rfl rfl (Do_quo' (j := x1911) (q := 16) rfl rfl e1914) ?_
          refine RL_do rfl rfl (Do_assign (v := .int .i64 x1913) rfl) ?_
          refine (RL_nil (thenQ_n (hK1896 _ _ ?_)))
          obtain ⟨g1939, hF, hK1941⟩ := bindO_some hF
          refine WP_seqS [7, 26, 27, 28, 29, 30, 31, 32, 33, 34, 35] (fun (g : Unit) => [(7, .int .i64 g1939)]) (fun g wl => Hd O w wl S [.fz (.sl (Rp.int .u8) v1 p0), .blk b4 ((Fl.arr 64 (Fl.int .u16)).f (Arr.rep 64 0 : Arr 64 Int)) 25, .blk b8 ((Fl.arr 64 (Fl.int .u16)).f g1811) 25]) ?_ ?_
          · skip
            refine WP_seq_k fun K1942 hK1942 => ?_
            refine WP_region ?_
            refine RL_do rfl rfl (Do_move (v := .int .i64 x1894) rfl) ?_
            obtain ⟨x1943, e1944, hF⟩ := bindO_some hF
            refine RL_do rfl rfl (Do_rem' (j := x1894) (q := 2) rfl rfl e1944) ?_
            obtain ⟨x1945, e1946, hF⟩ := letO_some hF
            refine RL_do rfl rfl (Do_as (Do_eql (a := x1943) (b := 1) rfl rfl) (congrArg Value.bool e1946)) ?_
            refine (RL_nil (thenQ_n (hK1942 _ _ ?_)))
            refine WP_ifb (b := x1945) rfl (fun c1947 => ?_) (fun c1947 => ?_)
            · have hF := iteB_t c1947 hF
              refine WP_region ?_
              refine RL_do rfl rfl (Do_move (v := v1) rfl) ?_
              refine RL_do rfl rfl (Do_move (v := .int .i64 x1894) rfl) ?_
              obtain ⟨x1948, e1949, hF⟩ := bindO_some hF
              refine RL_do rfl rfl (Do_quo' (j := x1894) (q := 2) rfl rfl e1949) ?_
              obtain ⟨x1950, e1951, hF⟩ := bindO_some hF
              obtain ⟨b1952, o1953, c1954, cs1955, q1956, h1959, h1957, h1958, h1960⟩ := rd_at (H.item (i := 0) rfl) e1951
              obtain rfl : cs1955 = [.int .u8 x1950] := h1959
              have H := H.fz (.at b1952 (o1953 + x1948.toNat * 1) _) ⟨h1957, h1958, h1960⟩
              refine RL_do rfl rfl (Do_idx u22 sz5 q1956 rfl (at_some e1951).1 (at_some e1951).2.1 rfl rfl) ?_
              refine RL_do rfl rfl (Do_load one5 rfl (Cells.get (H.item (i := 4) rfl).2.2 (i := 0) rfl)) ?_
              obtain ⟨x1962, e1963, hF⟩ := letO_some hF
              refine RL_do rfl rfl (Do_conv u5 u3 rfl e1963) ?_
              obtain ⟨x1964, e1965, hF⟩ := bindO_some hF
              refine RL_do rfl rfl (Do_rem' (j := x1962) (q := 16) rfl rfl e1965) ?_
              refine RL_do rfl rfl (Do_assign (v := .int .i64 x1964) rfl) ?_
              have hR := Option.some.inj hF
              subst hR
              refine (RL_nil (thenQ_n (And.intro ?_ ?_)))
              · repeat' (first | with_reducible exact Fr_refl | refine Fr_upd rfl ?_ | refine Fr_over rfl rfl ?_)
              · exact ⟨(), (Sl_cons rfl Sl_nil), H.pick [0, 1, 2] (by decide)⟩
            · have hF := iteB_f c1947 hF
              have hR := Option.some.inj hF
              subst hR
              refine (WP_skip (thenQ_n (And.intro ?_ ?_)))
              · repeat' (first | with_reducible exact Fr_refl | refine Fr_upd rfl ?_ | refine Fr_over rfl rfl ?_)
              · exact ⟨(), (Sl_cons rfl Sl_nil), H.pick [0, 1, 2] (by decide)⟩
          · rintro _ ρ w1940 H
            have hF := hK1941
            refine WP_region ?_
            refine RL_do rfl rfl (Do_move (v := .int .i64 g1223) rfl) ?_
            refine RL_do rfl rfl (Do_move (v := .int .i64 g1223) rfl) ?_
            obtain ⟨x1966, e1967, hF⟩ := bindO_some hF
            refine RL_do rfl rfl (Do_idxA (X := g1811) u25 sz23 rfl rfl e1967) ?_
            refine RL_do rfl rfl (Do_load1 (v := .int .u16 x1966) one23 rfl (Cells.ix (e := (Fl.int .u16)) (x := g1811) (Blk.cells (H.item (i := 2) rfl)) e1967)) ?_
            obtain ⟨x1968, e1969, hF⟩ := letO_some hF
            refine RL_do rfl rfl (Do_mul (a := x1966) (b := 16) rfl rfl e1969) ?_
            refine RL_do rfl rfl (Do_move (v := .int .i64 g1939) rfl) ?_
            obtain ⟨x1970, e1971, hF⟩ := letO_some hF
            refine RL_do rfl rfl (Do_conv u3 u23 rfl e1971) ?_
            obtain ⟨x1972, e1973, hF⟩ := letO_some hF
            refine RL_do rfl rfl (Do_add (a := x1968) (b := x1970) rfl rfl e1973) ?_
            obtain ⟨x1974, e1975, hF⟩ := bindO_some hF
            refine RL_do rfl rfl (Do_idxA (X := g1811) u25 sz23 rfl rfl e1975) ?_
            obtain ⟨x1976, e1977, hF⟩ := letO_some hF
            refine RL_exU rfl (Lx_storeA (e := (Fl.int .u16)) (X := g1811) (a := x1972) (j := g1223) H 2 rfl sz23 rfl (v := .int .u16 x1972) rfl rfl (Arr.at_lt e1975).1 (Arr.at_lt e1975).2 e1977) ?_
            rintro w1978 H
            refine (RL_nil (blockQ_n (thenQ_n (hK1889 _ _ ?_))))
            refine WP_region ?_
            obtain ⟨x1979, e1980, hF⟩ := letO_some hF
            refine RL_do rfl rfl (Do_add (a := g1810) (b := 1) rfl rfl e1980) ?_
            refine RL_do rfl rfl (Do_move (v := .int .i64 x1979) rfl) ?_
            refine (RL_nil (thenQ_n (And.intro ?_ ?_)))
            · repeat' (first | with_reducible exact Fr_refl | refine Fr_upd rfl ?_ | refine Fr_over rfl rfl ?_)
            · exact ⟨(n1817, x1979, x1976), (Sl_cons rfl Sl_nil), ⟨H.pick [0, 1, 2] (by decide), hF⟩, Nat.lt_succ_self _⟩
        · have hF := iteB_f c1823 hF
          have hR := Option.some.inj hF
          subst hR
          refine (WP_exit (thenQ_x (thenQ_x (blockQ_eq (blockQ_n (thenQ_n (And.intro ?_ ?_)))))))
          · repeat' (first | with_reducible exact Fr_refl | refine Fr_upd rfl ?_ | refine Fr_over rfl rfl ?_)
          · exact ⟨(), Sl_nil, H.pick [0, 1, 2] (by decide)⟩
      · rintro _ ρ w1526 H
        have hF := hK1527
        refine WP_region ?_
        obtain ⟨x1981, e1982, hF⟩ := letO_some hF
        refine RL_do rfl rfl (Do_add (a := g1223) (b := 1) rfl rfl e1982) ?_
        refine RL_do rfl rfl (Do_move (v := .int .i64 x1981) rfl) ?_
        refine (RL_nil (thenQ_n (And.intro ?_ ?_)))
        · repeat' (first | with_reducible exact Fr_refl | refine Fr_upd rfl ?_ | refine Fr_over rfl rfl ?_)
        · exact ⟨(n1230, x1981, g1525), (Sl_cons rfl Sl_nil), ⟨H.pick [0, 1, 2] (by decide), hF⟩, Nat.lt_succ_self _⟩
    · have hF := iteB_f c1236 hF
      have hR := Option.some.inj hF
      subst hR
      refine (WP_exit (thenQ_x (thenQ_x (blockQ_eq (thenQ_n (And.intro ?_ ?_))))))
      · repeat' (first | with_reducible exact Fr_refl | refine Fr_upd rfl ?_ | refine Fr_over rfl rfl ?_)
      · exact ⟨(), Sl_nil, H.pick [1, 2] (by decide)⟩
  · rintro _ ρ w620 H
    have hF := hK621
    refine WP_seq_k fun K1983 hK1983 => ?_
    refine WP_region ?_
    refine RL_do rfl rfl (Do_loadF (e := (Fl.arr 64 (Fl.int .u16))) (a := g619) agg25 rfl sz25 (Blk.cells (H.item (i := 1) rfl))) ?_
    refine RL_exU rfl (Lx_storeW (e := (Fl.arr 64 (Fl.int .u16))) (a := (Arr.rep 64 0 : Arr 64 Int)) (a' := g619) H 0 rfl sz25 rfl rfl) ?_
    rintro w1984 H
    refine (RL_nil (thenQ_n (hK1983 _ _ ?_)))
    have hR := Option.some.inj hF
    subst hR
    refine (WP_ret (postc  rfl rfl (run_loadVar_agg agg25 sz25 (Fl.len _ _) (Blk.cells (H.item (i := 0) rfl))) ?_))
    exact ⟨rfl, H.pick [] (by decide)⟩
end Go.Proofs.YtafgmocdnjdmoaaDoor.L
namespace Go.Proofs.YtafgmocdnjdmoaaDoor.L
open Go.RowKit Go.OB Go.Lf
/- orangebox/orangeboxref1.FromBytes -/
set_option maxHeartbeats 4000000 in
theorem F_ref1_FromBytes_w (p0 : List Int) (v1 : Value) (r : (Arr 64 Int) × Int) (hF : F_ref1_FromBytes p0 = some r) (O S : List Nat) (w : World) (H : Hd O w w S [.fz (.sl (Rp.int .u8) v1 p0)]) :
    Calls Tryd.prog 61 ([v1] : List Value).toArray w fun e w' => e = .returned (.tuple #[.agg ((Fl.arr 64 (Fl.int .u16)).f r.1).toArray, .int .i64 r.2]) ∧ Hd O w w' S [] := by
  unfold F_ref1_FromBytes at hF
  refine calls_of_WP 10 Tryd.func61 rfl rfl rfl ?_
  refine WP_seq_k fun K3 hK3 => ?_
  refine WP_region ?_
  refine RL_ex rfl rfl (Lx_alloc zero25 H) ?_
  rintro _ w6 ⟨b4, rfl, H⟩
  refine RL_do rfl rfl (Do_assign (v := .int .i64 0) rfl) ?_
  refine (RL_nil (thenQ_n (hK3 _ _ ?_)))
  refine WP_seq_k fun K18 hK18 => ?_
  refine WP_seq_k fun K19 hK19 => ?_
  refine WP_region ?_
  refine RL_do rfl rfl (Do_move (v := v1) rfl) ?_
  obtain ⟨x20, e21, hF⟩ := letO_some hF
  obtain ⟨a22, c23, q24⟩ := SlF.len ((H.item (i := 0) rfl))
  refine RL_do rfl rfl (Do_as (Do_len u22 q24) (congrArg (Value.int .i64) e21)) ?_
  obtain ⟨x25, e26, hF⟩ := letO_some hF
  refine RL_do rfl rfl (Do_as (Do_lss (a := x20) (b := 96) rfl rfl) (congrArg Value.bool e26)) ?_
  refine (RL_nil (thenQ_n (hK19 _ _ ?_)))
  refine WP_ifb (b := x25) rfl (fun c27 => ?_) (fun c27 => ?_)
  · have hF := iteB_t c27 hF
    refine WP_seq_k fun K28 hK28 => ?_
    refine WP_region ?_
    refine RL_do rfl rfl (Do_build (cs := (Fl.arr 64 (Fl.int .u16)).f (Arr.rep 64 0 : Arr 64 Int)) bz25) ?_
    refine RL_exU rfl (Lx_storeW (e := (Fl.arr 64 (Fl.int .u16))) (a := (Arr.rep 64 0 : Arr 64 Int)) (a' := (Arr.rep 64 0 : Arr 64 Int)) H 1 rfl sz25 rfl rfl) ?_
    rintro w29 H
    refine RL_do rfl rfl (Do_assign (v := .int .i64 3) rfl) ?_
    refine (RL_nil (thenQ_n (hK28 _ _ ?_)))
    have hR := Option.some.inj hF
    subst hR
    refine (WP_ret (thenQ_r (postc1 (v1 := .int .i64 3) rfl rfl (run_loadVar_agg agg25 sz25 (Fl.len _ _) (Blk.cells (H.item (i := 1) rfl))) rfl ?_)))
    exact ⟨rfl, H.pick [] (by decide)⟩
  · have hF := iteB_f c27 hF
    refine (WP_skip (thenQ_n (hK18 _ _ ?_)))
    refine WP_seq_k fun K30 hK30 => ?_
    refine WP_region ?_
    refine RL_do rfl rfl (Do_move (v := v1) rfl) ?_
    have H31 := H
    obtain ⟨x32, e33, hF⟩ := bindO_some hF
    refine RL_call rfl rfl (DoC_func en81 rfl) (F_ref1_frame_w p0 v1 _ e33 _ _ _ (H.enter [] [0] (by decide) rfl)) ?_
    rintro _ w34 ⟨rfl, G35⟩
    have H := H31.step (G35.only : Only [] _ _)
    refine ⟨_, rfl, ?_⟩
    refine RL_exU rfl (Lx_storeW (e := (Fl.arr 64 (Fl.int .u16))) (a := (Arr.rep 64 0 : Arr 64 Int)) (a' := x32) H 1 rfl sz25 rfl rfl) ?_
    rintro w36 H
    refine RL_do rfl rfl (Do_assign (v := .int .i64 0) rfl) ?_
    refine (RL_nil (thenQ_n (hK30 _ _ ?_)))
    have hR := Option.some.inj hF
    subst hR
    refine (WP_ret (postc1 (v1 := .int .i64 0) rfl rfl (run_loadVar_agg agg25 sz25 (Fl.len _ _) (Blk.cells (H.item (i := 1) rfl))) rfl ?_))
    exact ⟨rfl, H.pick [] (by decide)⟩
end Go.Proofs.YtafgmocdnjdmoaaDoor.L
namespace Go.Proofs.YtafgmocdnjdmoaaDoor.L
open Go.RowKit Go.OB Go.Lf
/- orangebox/frame.checkPlace -/
set_option maxHeartbeats 4000000 in
theorem F_frame_checkPlace_w (p0 : List Int) (p1 : Int) (p2 : Int) (v1 : Value) (r : Int) (hF : F_frame_checkPlace p0 p1 p2 = some r) (O S : List Nat) (w : World) (H : Hd O w w S [.fz (.sl (Rp.int .u8) v1 p0)]) :
    Calls Tryd.prog 95 ([v1, .int .i64 p1, .int .i64 p2] : List Value).toArray w fun e w' => e = .returned (.int .i64 r) ∧ Hd O w w' S [] := by
  unfold F_frame_checkPlace at hF
  refine calls_of_WP 17 Tryd.func95 rfl rfl rfl ?_
  refine WP_seq_k fun K3 hK3 => ?_
  refine WP_region ?_
  refine RL_do rfl rfl (Do_assign (v := .int .i64 0) rfl) ?_
  refine (RL_nil (thenQ_n (hK3 _ _ ?_)))
  refine WP_seq_k fun K21 hK21 => ?_
  refine WP_block ?_
  refine WP_seq_k fun K22 hK22 => ?_
  refine WP_region ?_
  refine RL_do rfl rfl (Do_move (v := .int .i64 p1) rfl) ?_
  obtain ⟨x23, e24, hF⟩ := letO_some hF
  refine RL_do rfl rfl (Do_as (Do_lss (a := p1) (b := 0) rfl rfl) (congrArg Value.bool e24)) ?_
  refine RL_do rfl rfl (Do_assign (v := .bool x23) rfl) ?_
  refine (RL_nil (thenQ_n (hK22 _ _ ?_)))
  refine WP_ifb (b := x23) rfl (fun c25 => ?_) (fun c25 => ?_)
  · have hF := iteB_t c25 hF
    refine WP_seq_k fun K26 hK26 => ?_
    refine WP_region ?_
    refine RL_do rfl rfl (Do_assign (v := .int .i64 9) rfl) ?_
    refine (RL_nil (thenQ_n (hK26 _ _ ?_)))
    have hR := Option.some.inj hF
    subst hR
    refine (WP_ret (blockQ_r (thenQ_r (post1 (v1 := .int .i64 9) rfl rfl ?_))))
    exact ⟨rfl, H.pick [] (by decide)⟩
  · have hF := iteB_f c25 hF
    refine WP_seq_k fun K27 hK27 => ?_
    refine WP_region ?_
    refine RL_do rfl rfl (Do_move (v := .int .i64 p1) rfl) ?_
    refine RL_do rfl rfl (Do_move (v := v1) rfl) ?_
    obtain ⟨x28, e29, hF⟩ := letO_some hF
    obtain ⟨a30, c31, q32⟩ := SlF.len ((H.item (i := 0) rfl))
    refine RL_do rfl rfl (Do_as (Do_len u22 q32) (congrArg (Value.int .i64) e29)) ?_
    refine RL_do rfl rfl (Do_move (v := .int .i64 p2) rfl) ?_
    obtain ⟨x33, e34, hF⟩ := letO_some hF
    refine RL_do rfl rfl (Do_sub (a := x28) (b := p2) rfl rfl e34) ?_
    obtain ⟨x35, e36, hF⟩ := letO_some hF
    refine RL_do rfl rfl (Do_as (Do_gtr (a := p1) (b := x33) rfl rfl) (congrArg Value.bool e36)) ?_
    refine RL_do rfl rfl (Do_assign (v := .bool x35) rfl) ?_
    refine (RL_nil (thenQ_n (hK27 _ _ ?_)))
    refine WP_ifb (b := x35) rfl (fun c37 => ?_) (fun c37 => ?_)
    · have hF := iteB_t c37 hF
      refine WP_seq_k fun K38 hK38 => ?_
      refine WP_region ?_
      refine RL_do rfl rfl (Do_assign (v := .int .i64 3) rfl) ?_
      refine (RL_nil (thenQ_n (hK38 _ _ ?_)))
      have hR := Option.some.inj hF
      subst hR
      refine (WP_ret (blockQ_r (thenQ_r (post1 (v1 := .int .i64 3) rfl rfl ?_))))
      exact ⟨rfl, H.pick [] (by decide)⟩
    · have hF := iteB_f c37 hF
      refine (WP_skip (blockQ_n (thenQ_n (hK21 _ _ ?_))))
      refine WP_seq_k fun K39 hK39 => ?_
      refine WP_region ?_
      refine RL_do rfl rfl (Do_assign (v := .int .i64 0) rfl) ?_
      refine (RL_nil (thenQ_n (hK39 _ _ ?_)))
      have hR := Option.some.inj hF
      subst hR
      refine (WP_ret (post1 (v1 := .int .i64 0) rfl rfl ?_))
      exact ⟨rfl, H.pick [] (by decide)⟩
end Go.Proofs.YtafgmocdnjdmoaaDoor.L
namespace Go.Proofs.YtafgmocdnjdmoaaDoor.L
open Go.RowKit Go.OB Go.Lf
/- orangebox/frame.inPlace -/
set_option maxHeartbeats 4000000 in
theorem F_frame_inPlace_w (p0 : List Int) (p1 : Int) (v1 : Value) (r : (Option (Arr 96 Int)) × Int) (hF : F_frame_inPlace p0 p1 = some r) (O S : List Nat) (w : World) (H : Hd O w w S [.fz (.sl (Rp.int .u8) v1 p0)]) :
    Calls Tryd.prog 77 ([v1, .int .i64 p1] : List Value).toArray w fun e w' => ∃ u3, e = .returned (.tuple #[.pointer u3, .int .i64 r.2]) ∧ Hd O w w' S [.fz (.pt (Rp.fl (Fl.arr 96 (Fl.int .u8))) u3 r.1)] := by
  unfold F_frame_inPlace at hF
  refine calls_of_WP 19 Tryd.func77 rfl rfl rfl ?_
  refine WP_seq_k fun K4 hK4 => ?_
  refine WP_region ?_
  refine RL_do rfl rfl (Do_assign (v := .pointer none) rfl) ?_
  refine RL_do rfl rfl (Do_assign (v := .int .i64 0) rfl) ?_
  refine (RL_nil (thenQ_n (hK4 _ _ ?_)))
  refine WP_seq_k fun K16 hK16 => ?_
  refine WP_seq_k fun K17 hK17 => ?_
  refine WP_region ?_
  refine RL_do rfl rfl (Do_move (v := v1) rfl) ?_
  refine RL_do rfl rfl (Do_move (v := .int .i64 p1) rfl) ?_
  have H18 := H
  obtain ⟨x19, e20, hF⟩ := bindO_some hF
  refine RL_call rfl rfl (DoC_func en95 rfl) (F_frame_checkPlace_w p0 p1 96 v1 _ e20 _ _ _ (H.enter [] [0] (by decide) rfl)) ?_
  rintro _ w21 ⟨rfl, G22⟩
  have H := H18.step (G22.only : Only [] _ _)
  refine ⟨_, rfl, ?_⟩
  refine RL_do rfl rfl (Do_assign (v := .int .i64 x19) rfl) ?_
  refine (RL_nil (thenQ_n (hK17 _ _ ?_)))
  refine WP_seq_k fun K23 hK23 => ?_
  refine WP_region ?_
  refine RL_do rfl rfl (Do_move (v := .int .i64 x19) rfl) ?_
  obtain ⟨x24, e25, hF⟩ := letO_some hF
  refine RL_do rfl rfl (Do_as (Do_neq (a := x19) (b := 0) rfl rfl) (congrArg Value.bool e25)) ?_
  refine (RL_nil (thenQ_n (hK23 _ _ ?_)))
  refine WP_ifb (b := x24) rfl (fun c26 => ?_) (fun c26 => ?_)
  · have hF := iteB_t c26 hF
    refine WP_seq_k fun K27 hK27 => ?_
    refine WP_region ?_
    refine RL_do rfl rfl (Do_move (v := .int .i64 x19) rfl) ?_
    refine RL_do rfl rfl (Do_assign (v := .pointer none) rfl) ?_
    refine RL_do rfl rfl (Do_assign (v := .int .i64 x19) rfl) ?_
    refine (RL_nil (thenQ_n (hK27 _ _ ?_)))
    have H := H.fz (.pt (Rp.fl (Fl.arr 96 (Fl.int .u8))) none none) rfl
    have hR := Option.some.inj hF
    subst hR
    refine (WP_ret (thenQ_r (post2 (v1 := .pointer none) (v2 := .int .i64 x19) rfl rfl rfl ?_)))
    exact ⟨none, rfl, H.pick [1] (by decide)⟩
  · have hF := iteB_f c26 hF
    refine (WP_skip (thenQ_n (hK16 _ _ ?_)))
    refine WP_seq_k fun K29 hK29 => ?_
    refine WP_region ?_
    refine RL_do rfl rfl (Do_move (v := v1) rfl) ?_
    refine RL_do rfl rfl (Do_move (v := .int .i64 p1) rfl) ?_
    refine RL_do rfl rfl (Do_move (v := .int .i64 p1) rfl) ?_
    obtain ⟨x30, e31, hF⟩ := letO_some hF
    refine RL_do rfl rfl (Do_add (a := p1) (b := 96) rfl rfl e31) ?_
    obtain ⟨x32, e33, hF⟩ := bindO_some hF
    refine RL_exP rfl rfl (Lx_slice_lh u22 sz5 (H.item (i := 0) rfl) rfl rfl rfl e33) ?_
    rintro v34 h35
    have H := H.fz (.sl (Rp.int .u8) v34 x32) h35
    obtain ⟨x37, e38, hF⟩ := bindO_some hF
    obtain ⟨b39, o40, h41, h42, h43, h44⟩ := Lx_toArr (e := (Fl.int .u8)) (r := (Rp.int .u8)) (fun _ _ _ _ => Iff.rfl) rfl (H.item (i := 1) rfl) e38 (by decide)
    have H := H.fz (.at b39 o40 _) ⟨h42, h43, h44⟩
    refine RL_do rfl rfl (Do_toArrF u116 rfl h41 e38) ?_
    refine RL_do rfl rfl (Do_assign (v := .pointer (some ⟨b39, o40, none⟩)) rfl) ?_
    refine RL_do rfl rfl (Do_assign (v := .int .i64 0) rfl) ?_
    refine (RL_nil (thenQ_n (hK29 _ _ ?_)))
    have H := H.fz (.pt (Rp.fl (Fl.arr 96 (Fl.int .u8))) (some ⟨b39, o40, none⟩) (some x37)) ⟨_, _, _, rfl, (H.item (i := 2) rfl).1, (H.item (i := 2) rfl).2.1, rfl, (H.item (i := 2) rfl).2.2⟩
    have hR := Option.some.inj hF
    subst hR
    refine (WP_ret (post2 (v1 := .pointer (some ⟨b39, o40, none⟩)) (v2 := .int .i64 0) rfl rfl rfl ?_))
    exact ⟨(some ⟨b39, o40, none⟩), rfl, H.pick [3] (by decide)⟩
end Go.Proofs.YtafgmocdnjdmoaaDoor.L
namespace Go.Proofs.YtafgmocdnjdmoaaDoor.L
open Go.RowKit Go.OB Go.Lf
/- orangebox/frame.Get -/
set_option maxHeartbeats 4000000 in
theorem F_frame_Get_w (p0 : List Int) (p1 : Int) (v1 : Value) (r : (Arr 64 Int) × Int) (hF : F_frame_Get p0 p1 = some r) (O S : List Nat) (w : World) (H : Hd O w w S [.fz (.sl (Rp.int .u8) v1 p0)]) :
    Calls Tryd.prog 62 ([v1, .int .i64 p1] : List Value).toArray w fun e w' => e = .returned (.tuple #[.agg ((Fl.arr 64 (Fl.int .u16)).f r.1).toArray, .int .i64 r.2]) ∧ Hd O w w' S [] := by
  unfold F_frame_Get at hF
  refine calls_of_WP 20 Tryd.func62 rfl rfl rfl ?_
  refine WP_seq_k fun K3 hK3 => ?_
  refine WP_region ?_
  refine RL_ex rfl rfl (Lx_alloc zero25 H) ?_
  rintro _ w6 ⟨b4, rfl, H⟩
  refine RL_do rfl rfl (Do_assign (v := .int .i64 0) rfl) ?_
  refine (RL_nil (thenQ_n (hK3 _ _ ?_)))
  refine WP_seq_k fun K7 hK7 => ?_
  refine WP_region ?_
  refine RL_do rfl rfl (Do_move (v := v1) rfl) ?_
  refine RL_do rfl rfl (Do_move (v := .int .i64 p1) rfl) ?_
  obtain ⟨⟨x8, x9⟩, e10, hF⟩ := bindO_some hF
  refine RL_call rfl rfl (DoC_func en77 rfl) (F_frame_inPlace_w p0 p1 v1 _ e10 _ _ _ (H.enter [] [0] (by decide) rfl)) ?_
  rintro _ w13 ⟨v11, rfl, G14⟩
  have H := H.back1 [0] rfl G14
  refine ⟨_, rfl, ?_⟩
  refine RL_do rfl rfl (Do_move (v := .tuple #[.pointer v11, .int .i64 x9]) rfl) ?_
  refine RL_do rfl rfl (Do_extract (v := .pointer v11) rfl rfl) ?_
  refine RL_do rfl rfl (Do_extract (v := .int .i64 x9) rfl rfl) ?_
  refine RL_do rfl rfl (Do_assign (v := .pointer v11) rfl) ?_
  refine RL_do rfl rfl (Do_assign (v := .int .i64 x9) rfl) ?_
  refine (RL_nil (thenQ_n (hK7 _ _ ?_)))
  refine WP_seq_k fun K21 hK21 => ?_
  refine WP_seq_k fun K22 hK22 => ?_
  refine WP_region ?_
  refine RL_do rfl rfl (Do_move (v := .int .i64 x9) rfl) ?_
  obtain ⟨x23, e24, hF⟩ := letO_some hF
  refine RL_do rfl rfl (Do_as (Do_neq (a := x9) (b := 0) rfl rfl) (congrArg Value.bool e24)) ?_
  refine (RL_nil (thenQ_n (hK22 _ _ ?_)))
  refine WP_ifb (b := x23) rfl (fun c25 => ?_) (fun c25 => ?_)
  · have hF := iteB_t c25 hF
    refine WP_seq_k fun K26 hK26 => ?_
    refine WP_region ?_
    refine RL_do rfl rfl (Do_build (cs := (Fl.arr 64 (Fl.int .u16)).f (Arr.rep 64 0 : Arr 64 Int)) bz25) ?_
    refine RL_do rfl rfl (Do_move (v := .int .i64 x9) rfl) ?_
    refine RL_exU rfl (Lx_storeW (e := (Fl.arr 64 (Fl.int .u16))) (a := (Arr.rep 64 0 : Arr 64 Int)) (a' := (Arr.rep 64 0 : Arr 64 Int)) H 1 rfl sz25 rfl rfl) ?_
    rintro w27 H
    refine RL_do rfl rfl (Do_assign (v := .int .i64 x9) rfl) ?_
    refine (RL_nil (thenQ_n (hK26 _ _ ?_)))
    have hR := Option.some.inj hF
    subst hR
    refine (WP_ret (thenQ_r (postc1 (v1 := .int .i64 x9) rfl rfl (run_loadVar_agg agg25 sz25 (Fl.len _ _) (Blk.cells (H.item (i := 1) rfl))) rfl ?_)))
    exact ⟨rfl, H.pick [] (by decide)⟩
  · have hF := iteB_f c25 hF
    refine (WP_skip (thenQ_n (hK21 _ _ ?_)))
    refine WP_seq_k fun K28 hK28 => ?_
    refine WP_region ?_
    refine RL_do rfl rfl (Do_move (v := .pointer v11) rfl) ?_
    have H29 := H
    obtain ⟨x30, e31, hF⟩ := bindO_some hF
    refine RL_call rfl rfl (DoC_func en94 rfl) (F_frame_load_w x8 v11 _ e31 _ _ _ (H.enter [] [2] (by decide) rfl)) ?_
    rintro _ w32 ⟨rfl, G33⟩
    have H := H29.step (G33.only : Only [] _ _)
    refine ⟨_, rfl, ?_⟩
    refine RL_exU rfl (Lx_storeW (e := (Fl.arr 64 (Fl.int .u16))) (a := (Arr.rep 64 0 : Arr 64 Int)) (a' := x30) H 1 rfl sz25 rfl rfl) ?_
    rintro w34 H
    refine RL_do rfl rfl (Do_assign (v := .int .i64 0) rfl) ?_
    refine (RL_nil (thenQ_n (hK28 _ _ ?_)))
    have hR := Option.some.inj hF
    subst hR
    refine (WP_ret (postc1 (v1 := .int .i64 0) rfl rfl (run_loadVar_agg agg25 sz25 (Fl.len _ _) (Blk.cells (H.item (i := 1) rfl))) rfl ?_))
    exact ⟨rfl, H.pick [] (by decide)⟩
end Go.Proofs.YtafgmocdnjdmoaaDoor.L
namespace Go.Proofs.YtafgmocdnjdmoaaDoor.L
open Go.RowKit Go.OB Go.Lf
/- orangebox/orangeboxref1.Place -/
set_option maxHeartbeats 4000000 in
theorem F_ref1_Place_w (p0 : List Int) (p1 : Int) (p2 : Int) (v1 : Value) (r : Int) (hF : F_ref1_Place p0 p1 p2 = some r) (O S : List Nat) (w : World) (H : Hd O w w S [.fz (.sl (Rp.int .u8) v1 p0)]) :
    Calls Tryd.prog 73 ([v1, .int .i64 p1, .int .i64 p2] : List Value).toArray w fun e w' => e = .returned (.int .i64 r) ∧ Hd O w w' S [] := by
  unfold F_ref1_Place at hF
  refine calls_of_WP 21 Tryd.func73 rfl rfl rfl ?_
  refine WP_seq_k fun K3 hK3 => ?_
  refine WP_region ?_
  refine RL_do rfl rfl (Do_assign (v := .int .i64 0) rfl) ?_
  refine (RL_nil (thenQ_n (hK3 _ _ ?_)))
  refine WP_seq_k fun K9 hK9 => ?_
  refine WP_seq_k fun K10 hK10 => ?_
  refine WP_region ?_
  refine RL_do rfl rfl (Do_move (v := .int .i64 p1) rfl) ?_
  obtain ⟨x11, e12, hF⟩ := letO_some hF
  refine RL_do rfl rfl (Do_as (Do_lss (a := p1) (b := 0) rfl rfl) (congrArg Value.bool e12)) ?_
  refine (RL_nil (thenQ_n (hK10 _ _ ?_)))
  refine WP_ifb (b := x11) rfl (fun c13 => ?_) (fun c13 => ?_)
  · have hF := iteB_t c13 hF
    refine WP_seq_k fun K14 hK14 => ?_
    refine WP_region ?_
    refine RL_do rfl rfl (Do_assign (v := .int .i64 9) rfl) ?_
    refine (RL_nil (thenQ_n (hK14 _ _ ?_)))
    have hR := Option.some.inj hF
    subst hR
    refine (WP_ret (thenQ_r (post1 (v1 := .int .i64 9) rfl rfl ?_)))
    exact ⟨rfl, H.pick [] (by decide)⟩
  · have hF := iteB_f c13 hF
    refine (WP_skip (thenQ_n (hK9 _ _ ?_)))
    refine WP_seq_k fun K37 hK37 => ?_
    obtain ⟨g55, hF, hK57⟩ := bindO_some hF
    refine WP_seqS [9, 10, 11, 12, 13, 14, 15, 16, 17, 18, 19, 20] (fun (g : Unit) => [(20, .bool g55)]) (fun g wl => Hd O w wl S []) ?_ ?_
    · skip
      refine WP_region ?_
      refine RL_do rfl rfl (Do_move (v := .int .i64 p1) rfl) ?_
      refine RL_do rfl rfl (Do_move (v := v1) rfl) ?_
      obtain ⟨x58, e59, hF⟩ := letO_some hF
      obtain ⟨a60, c61, q62⟩ := SlF.len ((H.item (i := 0) rfl))
      refine RL_do rfl rfl (Do_as (Do_len u22 q62) (congrArg (Value.int .i64) e59)) ?_
      obtain ⟨x63, e64, hF⟩ := letO_some hF
      refine RL_do rfl rfl (Do_as (Do_gtr (a := p1) (b := x58) rfl rfl) (congrArg Value.bool e64)) ?_
      refine RL_splitb (b := x63) rfl rfl rfl (fun c65 => ?_) (fun c65 => ?_)
      · have hF := iteB_t c65 hF
        refine RL_off rfl rfl ?_
        refine RL_off rfl rfl ?_
        refine RL_off rfl rfl ?_
        refine RL_off rfl rfl ?_
        refine RL_off rfl rfl ?_
        refine RL_off rfl rfl ?_
        refine RL_do rfl rfl (Do_pick_t (v := .bool true) rfl rfl) ?_
        have hR := Option.some.inj hF
        subst hR
        refine (RL_nil (thenQ_n (And.intro ?_ ?_)))
        · repeat' (first | with_reducible exact Fr_refl | refine Fr_upd rfl ?_ | refine Fr_over rfl rfl ?_)
        · exact ⟨(), (Sl_cons rfl Sl_nil), H.pick [] (by decide)⟩
      · have hF := iteB_f c65 hF
        refine RL_do rfl rfl (Do_move (v := v1) rfl) ?_
        obtain ⟨x66, e67, hF⟩ := letO_some hF
        obtain ⟨a68, c69, q70⟩ := SlF.len ((H.item (i := 0) rfl))
        refine RL_do rfl rfl (Do_as (Do_len u22 q70) (congrArg (Value.int .i64) e67)) ?_
        refine RL_do rfl rfl (Do_move (v := .int .i64 p1) rfl) ?_
        obtain ⟨x71, e72, hF⟩ := letO_some hF
        refine RL_do rfl rfl (Do_sub (a := x66) (b := p1) rfl rfl e72) ?_
        refine RL_do rfl rfl (Do_move (v := .int .i64 p2) rfl) ?_
        obtain ⟨x73, e74, hF⟩ := letO_some hF
        refine RL_do rfl rfl (Do_as (Do_lss (a := x71) (b := p2) rfl rfl) (congrArg Value.bool e74)) ?_
        refine RL_do rfl rfl (Do_pick_f (v := .bool x73) rfl rfl) ?_
        have hR := Option.some.inj hF
        subst hR
        refine (RL_nil (thenQ_n (And.intro ?_ ?_)))
        · repeat' (first | with_reducible exact Fr_refl | refine Fr_upd rfl ?_ | refine Fr_over rfl rfl ?_)
        · exact ⟨(), (Sl_cons rfl Sl_nil), H.pick [] (by decide)⟩
    · rintro _ ρ w56 H
      have hF := hK57
      refine WP_ifb (b := g55) rfl (fun c75 => ?_) (fun c75 => ?_)
      · have hF := iteB_t c75 hF
        refine WP_seq_k fun K76 hK76 => ?_
        refine WP_region ?_
        refine RL_do rfl rfl (Do_assign (v := .int .i64 3) rfl) ?_
        refine (RL_nil (thenQ_n (hK76 _ _ ?_)))
        have hR := Option.some.inj hF
        subst hR
        refine (WP_ret (thenQ_r (post1 (v1 := .int .i64 3) rfl rfl ?_)))
        exact ⟨rfl, H.pick [] (by decide)⟩
      · have hF := iteB_f c75 hF
        refine (WP_skip (thenQ_n (hK37 _ _ ?_)))
        refine WP_seq_k fun K77 hK77 => ?_
        refine WP_region ?_
        refine RL_do rfl rfl (Do_assign (v := .int .i64 0) rfl) ?_
        refine (RL_nil (thenQ_n (hK77 _ _ ?_)))
        have hR := Option.some.inj hF
        subst hR
        refine (WP_ret (post1 (v1 := .int .i64 0) rfl rfl ?_))
        exact ⟨rfl, H.pick [] (by decide)⟩
end Go.Proofs.YtafgmocdnjdmoaaDoor.L
namespace Go.Proofs.YtafgmocdnjdmoaaDoor.L
open Go.RowKit Go.OB Go.Lf
/- orangebox/orangeboxref1.Get -/
set_option maxHeartbeats 4000000 in
theorem F_ref1_Get_w (p0 : List Int) (p1 : Int) (v1 : Value) (r : (Arr 64 Int) × Int) (hF : F_ref1_Get p0 p1 = some r) (O S : List Nat) (w : World) (H : Hd O w w S [.fz (.sl (Rp.int .u8) v1 p0)]) :
    Calls Tryd.prog 63 ([v1, .int .i64 p1] : List Value).toArray w fun e w' => e = .returned (.tuple #[.agg ((Fl.arr 64 (Fl.int .u16)).f r.1).toArray, .int .i64 r.2]) ∧ Hd O w w' S [] := by
  unfold F_ref1_Get at hF
  refine calls_of_WP 18 Tryd.func63 rfl rfl rfl ?_
  refine WP_seq_k fun K3 hK3 => ?_
  refine WP_region ?_
  refine RL_ex rfl rfl (Lx_alloc zero25 H) ?_
  rintro _ w6 ⟨b4, rfl, H⟩
  refine RL_do rfl rfl (Do_assign (v := .int .i64 0) rfl) ?_
  refine (RL_nil (thenQ_n (hK3 _ _ ?_)))
  refine WP_seq_k fun K19 hK19 => ?_
  refine WP_seq_k fun K20 hK20 => ?_
  refine WP_region ?_
  refine RL_do rfl rfl (Do_move (v := v1) rfl) ?_
  refine RL_do rfl rfl (Do_move (v := .int .i64 p1) rfl) ?_
  have H21 := H
  obtain ⟨x22, e23, hF⟩ := bindO_some hF
  refine RL_call rfl rfl (DoC_func en73 rfl) (F_ref1_Place_w p0 p1 96 v1 _ e23 _ _ _ (H.enter [] [0] (by decide) rfl)) ?_
  rintro _ w24 ⟨rfl, G25⟩
  have H := H21.step (G25.only : Only [] _ _)
  refine ⟨_, rfl, ?_⟩
  refine RL_do rfl rfl (Do_assign (v := .int .i64 x22) rfl) ?_
  refine (RL_nil (thenQ_n (hK20 _ _ ?_)))
  refine WP_seq_k fun K26 hK26 => ?_
  refine WP_region ?_
  refine RL_do rfl rfl (Do_move (v := .int .i64 x22) rfl) ?_
  obtain ⟨x27, e28, hF⟩ := letO_some hF
  refine RL_do rfl rfl (Do_as (Do_neq (a := x22) (b := 0) rfl rfl) (congrArg Value.bool e28)) ?_
  refine (RL_nil (thenQ_n (hK26 _ _ ?_)))
  refine WP_ifb (b := x27) rfl (fun c29 => ?_) (fun c29 => ?_)
  · have hF := iteB_t c29 hF
    refine WP_seq_k fun K30 hK30 => ?_
    refine WP_region ?_
    refine RL_do rfl rfl (Do_build (cs := (Fl.arr 64 (Fl.int .u16)).f (Arr.rep 64 0 : Arr 64 Int)) bz25) ?_
    refine RL_do rfl rfl (Do_move (v := .int .i64 x22) rfl) ?_
    refine RL_exU rfl (Lx_storeW (e := (Fl.arr 64 (Fl.int .u16))) (a := (Arr.rep 64 0 : Arr 64 Int)) (a' := (Arr.rep 64 0 : Arr 64 Int)) H 1 rfl sz25 rfl rfl) ?_
    rintro w31 H
    refine RL_do rfl rfl (Do_assign (v := .int .i64 x22) rfl) ?_
    refine (RL_nil (thenQ_n (hK30 _ _ ?_)))
    have hR := Option.some.inj hF
    subst hR
    refine (WP_ret (thenQ_r (postc1 (v1 := .int .i64 x22) rfl rfl (run_loadVar_agg agg25 sz25 (Fl.len _ _) (Blk.cells (H.item (i := 1) rfl))) rfl ?_)))
    exact ⟨rfl, H.pick [] (by decide)⟩
  · have hF := iteB_f c29 hF
    refine (WP_skip (thenQ_n (hK19 _ _ ?_)))
    refine WP_seq_k fun K32 hK32 => ?_
    refine WP_region ?_
    refine RL_do rfl rfl (Do_move (v := v1) rfl) ?_
    refine RL_do rfl rfl (Do_move (v := .int .i64 p1) rfl) ?_
    obtain ⟨x33, e34, hF⟩ := bindO_some hF
    refine RL_exP rfl rfl (Lx_slice_l u22 sz5 (H.item (i := 0) rfl) rfl rfl e34) ?_
    rintro v35 h36
    have H := H.fz (.sl (Rp.int .u8) v35 x33) h36
    have H38 := H
    obtain ⟨x39, e40, hF⟩ := bindO_some hF
    refine RL_call rfl rfl (DoC_func en81 rfl) (F_ref1_frame_w x33 v35 _ e40 _ _ _ (H.enter [] [2] (by decide) rfl)) ?_
    rintro _ w41 ⟨rfl, G42⟩
    have H := H38.step (G42.only : Only [] _ _)
    refine ⟨_, rfl, ?_⟩
    refine RL_exU rfl (Lx_storeW (e := (Fl.arr 64 (Fl.int .u16))) (a := (Arr.rep 64 0 : Arr 64 Int)) (a' := x39) H 1 rfl sz25 rfl rfl) ?_
    rintro w43 H
    refine RL_do rfl rfl (Do_assign (v := .int .i64 0) rfl) ?_
    refine (RL_nil (thenQ_n (hK32 _ _ ?_)))
    have hR := Option.some.inj hF
    subst hR
    refine (WP_ret (postc1 (v1 := .int .i64 0) rfl rfl (run_loadVar_agg agg25 sz25 (Fl.len _ _) (Blk.cells (H.item (i := 1) rfl))) rfl ?_))
    exact ⟨rfl, H.pick [] (by decide)⟩
end Go.Proofs.YtafgmocdnjdmoaaDoor.L
namespace Go.Proofs.YtafgmocdnjdmoaaDoor.L
open Go.RowKit Go.OB Go.Lf
/- orangebox/frame.WordAt -/
set_option maxHeartbeats 4000000 in
theorem F_frame_WordAt_w (p0 : List Int) (p1 : Int) (p2 : Int) (v1 : Value) (r : Int × Int) (hF : F_frame_WordAt p0 p1 p2 = some r) (O S : List Nat) (w : World) (H : Hd O w w S [.fz (.sl (Rp.int .u8) v1 p0)]) :
    Calls Tryd.prog 64 ([v1, .int .i64 p1, .int .i64 p2] : List Value).toArray w fun e w' => e = .returned (.tuple #[.int .i64 r.1, .int .i64 r.2]) ∧ Hd O w w' S [] := by
  unfold F_frame_WordAt at hF
  refine calls_of_WP 29 Tryd.func64 rfl rfl rfl ?_
  refine WP_seq_k fun K3 hK3 => ?_
  refine WP_region ?_
  refine RL_do rfl rfl (Do_assign (v := .int .i64 0) rfl) ?_
  refine RL_do rfl rfl (Do_assign (v := .int .i64 0) rfl) ?_
  refine (RL_nil (thenQ_n (hK3 _ _ ?_)))
  refine WP_seq_k fun K4 hK4 => ?_
  refine WP_region ?_
  refine RL_do rfl rfl (Do_move (v := v1) rfl) ?_
  refine RL_do rfl rfl (Do_move (v := .int .i64 p1) rfl) ?_
  obtain ⟨⟨x5, x6⟩, e7, hF⟩ := bindO_some hF
  refine RL_call rfl rfl (DoC_func en77 rfl) (F_frame_inPlace_w p0 p1 v1 _ e7 _ _ _ (H.enter [] [0] (by decide) rfl)) ?_
  rintro _ w10 ⟨v8, rfl, G11⟩
  have H := H.back1 [0] rfl G11
  refine ⟨_, rfl, ?_⟩
  refine RL_do rfl rfl (Do_move (v := .tuple #[.pointer v8, .int .i64 x6]) rfl) ?_
  refine RL_do rfl rfl (Do_extract (v := .pointer v8) rfl rfl) ?_
  refine RL_do rfl rfl (Do_extract (v := .int .i64 x6) rfl rfl) ?_
  refine RL_do rfl rfl (Do_assign (v := .pointer v8) rfl) ?_
  refine RL_do rfl rfl (Do_assign (v := .int .i64 x6) rfl) ?_
  refine (RL_nil (thenQ_n (hK4 _ _ ?_)))
  refine WP_seq_k fun K17 hK17 => ?_
  refine WP_seq_k fun K18 hK18 => ?_
  refine WP_region ?_
  refine RL_do rfl rfl (Do_move (v := .int .i64 x6) rfl) ?_
  obtain ⟨x19, e20, hF⟩ := letO_some hF
  refine RL_do rfl rfl (Do_as (Do_neq (a := x6) (b := 0) rfl rfl) (congrArg Value.bool e20)) ?_
  refine (RL_nil (thenQ_n (hK18 _ _ ?_)))
  refine WP_ifb (b := x19) rfl (fun c21 => ?_) (fun c21 => ?_)
  · have hF := iteB_t c21 hF
    refine WP_seq_k fun K22 hK22 => ?_
    refine WP_region ?_
    refine RL_do rfl rfl (Do_move (v := .int .i64 x6) rfl) ?_
    refine RL_do rfl rfl (Do_assign (v := .int .i64 0) rfl) ?_
    refine RL_do rfl rfl (Do_assign (v := .int .i64 x6) rfl) ?_
    refine (RL_nil (thenQ_n (hK22 _ _ ?_)))
    have hR := Option.some.inj hF
    subst hR
    refine (WP_ret (thenQ_r (post2 (v1 := .int .i64 0) (v2 := .int .i64 x6) rfl rfl rfl ?_)))
    exact ⟨rfl, H.pick [] (by decide)⟩
  · have hF := iteB_f c21 hF
    refine (WP_skip (thenQ_n (hK17 _ _ ?_)))
    refine WP_seq_k fun K33 hK33 => ?_
    obtain ⟨g39, hF, hK41⟩ := bindO_some hF
    refine WP_seqS [19, 20, 21, 22, 23, 24] (fun (g : Unit) => [(24, .bool g39)]) (fun g wl => Hd O w wl S [.fz (.pt (Rp.fl (Fl.arr 96 (Fl.int .u8))) v8 x5)]) ?_ ?_
    · skip
      refine WP_region ?_
      refine RL_do rfl rfl (Do_move (v := .int .i64 p2) rfl) ?_
      obtain ⟨x42, e43, hF⟩ := letO_some hF
      refine RL_do rfl rfl (Do_as (Do_lss (a := p2) (b := 0) rfl rfl) (congrArg Value.bool e43)) ?_
      refine RL_splitb (b := x42) rfl rfl rfl (fun c44 => ?_) (fun c44 => ?_)
      · have hF := iteB_t c44 hF
        refine RL_off rfl rfl ?_
        refine RL_off rfl rfl ?_
        refine RL_do rfl rfl (Do_pick_t (v := .bool true) rfl rfl) ?_
        have hR := Option.some.inj hF
        subst hR
        refine (RL_nil (thenQ_n (And.intro ?_ ?_)))
        · repeat' (first | with_reducible exact Fr_refl | refine Fr_upd rfl ?_ | refine Fr_over rfl rfl ?_)
        · exact ⟨(), (Sl_cons rfl Sl_nil), H.pick [1] (by decide)⟩
      · have hF := iteB_f c44 hF
        refine RL_do rfl rfl (Do_move (v := .int .i64 p2) rfl) ?_
        obtain ⟨x45, e46, hF⟩ := letO_some hF
        refine RL_do rfl rfl (Do_as (Do_geq (a := p2) (b := 64) rfl rfl) (congrArg Value.bool e46)) ?_
        refine RL_do rfl rfl (Do_pick_f (v := .bool x45) rfl rfl) ?_
        have hR := Option.some.inj hF
        subst hR
        refine (RL_nil (thenQ_n (And.intro ?_ ?_)))
        · repeat' (first | with_reducible exact Fr_refl | refine Fr_upd rfl ?_ | refine Fr_over rfl rfl ?_)
        · exact ⟨(), (Sl_cons rfl Sl_nil), H.pick [1] (by decide)⟩
    · rintro _ ρ w40 H
      have hF := hK41
      refine WP_ifb (b := g39) rfl (fun c47 => ?_) (fun c47 => ?_)
      · have hF := iteB_t c47 hF
        refine WP_seq_k fun K48 hK48 => ?_
        refine WP_region ?_
        refine RL_do rfl rfl (Do_assign (v := .int .i64 0) rfl) ?_
        refine RL_do rfl rfl (Do_assign (v := .int .i64 9) rfl) ?_
        refine (RL_nil (thenQ_n (hK48 _ _ ?_)))
        have hR := Option.some.inj hF
        subst hR
        refine (WP_ret (thenQ_r (post2 (v1 := .int .i64 0) (v2 := .int .i64 9) rfl rfl rfl ?_)))
        exact ⟨rfl, H.pick [] (by decide)⟩
      · have hF := iteB_f c47 hF
        refine (WP_skip (thenQ_n (hK33 _ _ ?_)))
        refine WP_seq_k fun K49 hK49 => ?_
        refine WP_region ?_
        refine RL_do rfl rfl (Do_move (v := .pointer v8) rfl) ?_
        refine RL_do rfl rfl (Do_move (v := .int .i64 p2) rfl) ?_
        have H50 := H
        obtain ⟨x51, e52, hF⟩ := bindO_some hF
        refine RL_call rfl rfl (DoC_func en106 rfl) (F_frame_wordIn_w x5 p2 v8 _ e52 _ _ _ (H.enter [] [0] (by decide) rfl)) ?_
        rintro _ w53 ⟨rfl, G54⟩
        have H := H50.step (G54.only : Only [] _ _)
        refine ⟨_, rfl, ?_⟩
        obtain ⟨x55, e56, hF⟩ := letO_some hF
        refine RL_do rfl rfl (Do_conv u23 u3 rfl e56) ?_
        refine RL_do rfl rfl (Do_assign (v := .int .i64 x55) rfl) ?_
        refine RL_do rfl rfl (Do_assign (v := .int .i64 0) rfl) ?_
        refine (RL_nil (thenQ_n (hK49 _ _ ?_)))
        have hR := Option.some.inj hF
        subst hR
        refine (WP_ret (post2 (v1 := .int .i64 x55) (v2 := .int .i64 0) rfl rfl rfl ?_))
        exact ⟨rfl, H.pick [] (by decide)⟩
end Go.Proofs.YtafgmocdnjdmoaaDoor.L
namespace Go.Proofs.YtafgmocdnjdmoaaDoor.L
open Go.RowKit Go.OB Go.Lf
/- orangebox/orangeboxref1.WordAt -/
set_option maxHeartbeats 4000000 in
theorem F_ref1_WordAt_w (p0 : List Int) (p1 : Int) (p2 : Int) (v1 : Value) (r : Int × Int) (hF : F_ref1_WordAt p0 p1 p2 = some r) (O S : List Nat) (w : World) (H : Hd O w w S [.fz (.sl (Rp.int .u8) v1 p0)]) :
    Calls Tryd.prog 65 ([v1, .int .i64 p1, .int .i64 p2] : List Value).toArray w fun e w' => e = .returned (.tuple #[.int .i64 r.1, .int .i64 r.2]) ∧ Hd O w w' S [] := by
  unfold F_ref1_WordAt at hF
  refine calls_of_WP 28 Tryd.func65 rfl rfl rfl ?_
  refine WP_seq_k fun K3 hK3 => ?_
  refine WP_region ?_
  refine RL_do rfl rfl (Do_assign (v := .int .i64 0) rfl) ?_
  refine RL_do rfl rfl (Do_assign (v := .int .i64 0) rfl) ?_
  refine (RL_nil (thenQ_n (hK3 _ _ ?_)))
  refine WP_seq_k fun K15 hK15 => ?_
  refine WP_seq_k fun K16 hK16 => ?_
  refine WP_region ?_
  refine RL_do rfl rfl (Do_move (v := v1) rfl) ?_
  refine RL_do rfl rfl (Do_move (v := .int .i64 p1) rfl) ?_
  have H17 := H
  obtain ⟨x18, e19, hF⟩ := bindO_some hF
  refine RL_call rfl rfl (DoC_func en73 rfl) (F_ref1_Place_w p0 p1 96 v1 _ e19 _ _ _ (H.enter [] [0] (by decide) rfl)) ?_
  rintro _ w20 ⟨rfl, G21⟩
  have H := H17.step (G21.only : Only [] _ _)
  refine ⟨_, rfl, ?_⟩
  refine RL_do rfl rfl (Do_assign (v := .int .i64 x18) rfl) ?_
  refine (RL_nil (thenQ_n (hK16 _ _ ?_)))
  refine WP_seq_k fun K22 hK22 => ?_
  refine WP_region ?_
  refine RL_do rfl rfl (Do_move (v := .int .i64 x18) rfl) ?_
  obtain ⟨x23, e24, hF⟩ := letO_some hF
  refine RL_do rfl rfl (Do_as (Do_neq (a := x18) (b := 0) rfl rfl) (congrArg Value.bool e24)) ?_
  refine (RL_nil (thenQ_n (hK22 _ _ ?_)))
  refine WP_ifb (b := x23) rfl (fun c25 => ?_) (fun c25 => ?_)
  · have hF := iteB_t c25 hF
    refine WP_seq_k fun K26 hK26 => ?_
    refine WP_region ?_
    refine RL_do rfl rfl (Do_move (v := .int .i64 x18) rfl) ?_
    refine RL_do rfl rfl (Do_assign (v := .int .i64 0) rfl) ?_
    refine RL_do rfl rfl (Do_assign (v := .int .i64 x18) rfl) ?_
    refine (RL_nil (thenQ_n (hK26 _ _ ?_)))
    have hR := Option.some.inj hF
    subst hR
    refine (WP_ret (thenQ_r (post2 (v1 := .int .i64 0) (v2 := .int .i64 x18) rfl rfl rfl ?_)))
    exact ⟨rfl, H.pick [] (by decide)⟩
  · have hF := iteB_f c25 hF
    refine (WP_skip (thenQ_n (hK15 _ _ ?_)))
    refine WP_seq_k fun K37 hK37 => ?_
    obtain ⟨g43, hF, hK45⟩ := bindO_some hF
    refine WP_seqS [15, 16, 17, 18, 19, 20] (fun (g : Unit) => [(20, .bool g43)]) (fun g wl => Hd O w wl S [.fz (.sl (Rp.int .u8) v1 p0)]) ?_ ?_
    · skip
      refine WP_region ?_
      refine RL_do rfl rfl (Do_move (v := .int .i64 p2) rfl) ?_
      obtain ⟨x46, e47, hF⟩ := letO_some hF
      refine RL_do rfl rfl (Do_as (Do_lss (a := p2) (b := 0) rfl rfl) (congrArg Value.bool e47)) ?_
      refine RL_splitb (b := x46) rfl rfl rfl (fun c48 => ?_) (fun c48 => ?_)
      · have hF := iteB_t c48 hF
        refine RL_off rfl rfl ?_
        refine RL_off rfl rfl ?_
        refine RL_do rfl rfl (Do_pick_t (v := .bool true) rfl rfl) ?_
        have hR := Option.some.inj hF
        subst hR
        refine (RL_nil (thenQ_n (And.intro ?_ ?_)))
        · repeat' (first | with_reducible exact Fr_refl | refine Fr_upd rfl ?_ | refine Fr_over rfl rfl ?_)
        · exact ⟨(), (Sl_cons rfl Sl_nil), H.pick [0] (by decide)⟩
      · have hF := iteB_f c48 hF
        refine RL_do rfl rfl (Do_move (v := .int .i64 p2) rfl) ?_
        obtain ⟨x49, e50, hF⟩ := letO_some hF
        refine RL_do rfl rfl (Do_as (Do_gtr (a := p2) (b := 63) rfl rfl) (congrArg Value.bool e50)) ?_
        refine RL_do rfl rfl (Do_pick_f (v := .bool x49) rfl rfl) ?_
        have hR := Option.some.inj hF
        subst hR
        refine (RL_nil (thenQ_n (And.intro ?_ ?_)))
        · repeat' (first | with_reducible exact Fr_refl | refine Fr_upd rfl ?_ | refine Fr_over rfl rfl ?_)
        · exact ⟨(), (Sl_cons rfl Sl_nil), H.pick [0] (by decide)⟩
    · rintro _ ρ w44 H
      have hF := hK45
      refine WP_ifb (b := g43) rfl (fun c51 => ?_) (fun c51 => ?_)
      · have hF := iteB_t c51 hF
        refine WP_seq_k fun K52 hK52 => ?_
        refine WP_region ?_
        refine RL_do rfl rfl (Do_assign (v := .int .i64 0) rfl) ?_
        refine RL_do rfl rfl (Do_assign (v := .int .i64 9) rfl) ?_
        refine (RL_nil (thenQ_n (hK52 _ _ ?_)))
        have hR := Option.some.inj hF
        subst hR
        refine (WP_ret (thenQ_r (post2 (v1 := .int .i64 0) (v2 := .int .i64 9) rfl rfl rfl ?_)))
        exact ⟨rfl, H.pick [] (by decide)⟩
      · have hF := iteB_f c51 hF
        refine (WP_skip (thenQ_n (hK37 _ _ ?_)))
        refine WP_seq_k fun K53 hK53 => ?_
        refine WP_region ?_
        refine RL_do rfl rfl (Do_move (v := v1) rfl) ?_
        refine RL_do rfl rfl (Do_move (v := .int .i64 p1) rfl) ?_
        obtain ⟨x54, e55, hF⟩ := bindO_some hF
        refine RL_exP rfl rfl (Lx_slice_l u22 sz5 (H.item (i := 0) rfl) rfl rfl e55) ?_
        rintro v56 h57
        have H := H.fz (.sl (Rp.int .u8) v56 x54) h57
        have H59 := H
        obtain ⟨x60, e61, hF⟩ := bindO_some hF
        refine RL_call rfl rfl (DoC_func en81 rfl) (F_ref1_frame_w x54 v56 _ e61 _ _ _ (H.enter [] [1] (by decide) rfl)) ?_
        rintro _ w62 ⟨rfl, G63⟩
        have H := H59.step (G63.only : Only [] _ _)
        refine ⟨_, rfl, ?_⟩
        refine RL_do rfl rfl (Do_move (v := .int .i64 p2) rfl) ?_
        obtain ⟨x64, e65, hF⟩ := bindO_some hF
        refine RL_do rfl rfl (Do_indexA1 (e := (Fl.int .u16)) (X := x60) u25 one23 sz23 rfl rfl rfl e65 rfl) ?_
        obtain ⟨x66, e67, hF⟩ := letO_some hF
        refine RL_do rfl rfl (Do_conv u23 u3 rfl e67) ?_
        refine RL_do rfl rfl (Do_assign (v := .int .i64 x66) rfl) ?_
        refine RL_do rfl rfl (Do_assign (v := .int .i64 0) rfl) ?_
        refine (RL_nil (thenQ_n (hK53 _ _ ?_)))
        have hR := Option.some.inj hF
        subst hR
        refine (WP_ret (post2 (v1 := .int .i64 x66) (v2 := .int .i64 0) rfl rfl rfl ?_))
        exact ⟨rfl, H.pick [] (by decide)⟩
end Go.Proofs.YtafgmocdnjdmoaaDoor.L
namespace Go.Proofs.YtafgmocdnjdmoaaDoor.L
open Go.RowKit Go.OB Go.Lf
/- orangebox/frame.Same -/
set_option maxHeartbeats 4000000 in
theorem F_frame_Same_w (p0 : List Int) (p1 : Int) (p2 : List Int) (p3 : Int) (v1 : Value) (v3 : Value) (r : Bool × Int) (hF : F_frame_Same p0 p1 p2 p3 = some r) (O S : List Nat) (w : World) (H : Hd O w w S [.fz (.sl (Rp.int .u8) v1 p0), .fz (.sl (Rp.int .u8) v3 p2)]) :
    Calls Tryd.prog 66 ([v1, .int .i64 p1, v3, .int .i64 p3] : List Value).toArray w fun e w' => e = .returned (.tuple #[.bool r.1, .int .i64 r.2]) ∧ Hd O w w' S [] := by
  unfold F_frame_Same at hF
  refine calls_of_WP 47 Tryd.func66 rfl rfl rfl ?_
  refine WP_seq_k fun K5 hK5 => ?_
  refine WP_region ?_
  refine RL_do rfl rfl (Do_assign (v := .bool false) rfl) ?_
  refine RL_do rfl rfl (Do_assign (v := .int .i64 0) rfl) ?_
  refine (RL_nil (thenQ_n (hK5 _ _ ?_)))
  refine WP_seq_k fun K19 hK19 => ?_
  refine WP_seq_k fun K20 hK20 => ?_
  refine WP_region ?_
  refine RL_do rfl rfl (Do_move (v := v1) rfl) ?_
  refine RL_do rfl rfl (Do_move (v := .int .i64 p1) rfl) ?_
  obtain ⟨⟨x21, x22⟩, e23, hF⟩ := bindO_some hF
  refine RL_call rfl rfl (DoC_func en77 rfl) (F_frame_inPlace_w p0 p1 v1 _ e23 _ _ _ (H.enter [] [0] (by decide) rfl)) ?_
  rintro _ w26 ⟨v24, rfl, G27⟩
  have H := H.back1 [0] rfl G27
  refine ⟨_, rfl, ?_⟩
  refine RL_do rfl rfl (Do_move (v := .tuple #[.pointer v24, .int .i64 x22]) rfl) ?_
  refine RL_do rfl rfl (Do_extract (v := .pointer v24) rfl rfl) ?_
  refine RL_do rfl rfl (Do_extract (v := .int .i64 x22) rfl rfl) ?_
  refine RL_do rfl rfl (Do_assign (v := .pointer v24) rfl) ?_
  refine RL_do rfl rfl (Do_assign (v := .int .i64 x22) rfl) ?_
  refine (RL_nil (thenQ_n (hK20 _ _ ?_)))
  refine WP_seq_k fun K28 hK28 => ?_
  refine WP_region ?_
  refine RL_do rfl rfl (Do_move (v := .int .i64 x22) rfl) ?_
  obtain ⟨x29, e30, hF⟩ := letO_some hF
  refine RL_do rfl rfl (Do_as (Do_neq (a := x22) (b := 0) rfl rfl) (congrArg Value.bool e30)) ?_
  refine (RL_nil (thenQ_n (hK28 _ _ ?_)))
  refine WP_ifb (b := x29) rfl (fun c31 => ?_) (fun c31 => ?_)
  · have hF := iteB_t c31 hF
    refine WP_seq_k fun K32 hK32 => ?_
    refine WP_region ?_
    refine RL_do rfl rfl (Do_move (v := .int .i64 x22) rfl) ?_
    refine RL_do rfl rfl (Do_assign (v := .bool false) rfl) ?_
    refine RL_do rfl rfl (Do_assign (v := .int .i64 x22) rfl) ?_
    refine (RL_nil (thenQ_n (hK32 _ _ ?_)))
    have hR := Option.some.inj hF
    subst hR
    refine (WP_ret (thenQ_r (post2 (v1 := .bool false) (v2 := .int .i64 x22) rfl rfl rfl ?_)))
    exact ⟨rfl, H.pick [] (by decide)⟩
  · have hF := iteB_f c31 hF
    refine (WP_skip (thenQ_n (hK19 _ _ ?_)))
    refine WP_seq_k fun K46 hK46 => ?_
    refine WP_seq_k fun K47 hK47 => ?_
    refine WP_region ?_
    refine RL_do rfl rfl (Do_move (v := v3) rfl) ?_
    refine RL_do rfl rfl (Do_move (v := .int .i64 p3) rfl) ?_
    obtain ⟨⟨x48, x49⟩, e50, hF⟩ := bindO_some hF
    refine RL_call rfl rfl (DoC_func en77 rfl) (F_frame_inPlace_w p2 p3 v3 _ e50 _ _ _ (H.enter [] [1] (by decide) rfl)) ?_
    rintro _ w53 ⟨v51, rfl, G54⟩
    have H := H.back1 [1] rfl G54
    refine ⟨_, rfl, ?_⟩
    refine RL_do rfl rfl (Do_move (v := .tuple #[.pointer v51, .int .i64 x49]) rfl) ?_
    refine RL_do rfl rfl (Do_extract (v := .pointer v51) rfl rfl) ?_
    refine RL_do rfl rfl (Do_extract (v := .int .i64 x49) rfl rfl) ?_
    refine RL_do rfl rfl (Do_assign (v := .pointer v51) rfl) ?_
    refine RL_do rfl rfl (Do_assign (v := .int .i64 x49) rfl) ?_
    refine (RL_nil (thenQ_n (hK47 _ _ ?_)))
    refine WP_seq_k fun K55 hK55 => ?_
    refine WP_region ?_
    refine RL_do rfl rfl (Do_move (v := .int .i64 x49) rfl) ?_
    obtain ⟨x56, e57, hF⟩ := letO_some hF
    refine RL_do rfl rfl (Do_as (Do_neq (a := x49) (b := 0) rfl rfl) (congrArg Value.bool e57)) ?_
    refine (RL_nil (thenQ_n (hK55 _ _ ?_)))
    refine WP_ifb (b := x56) rfl (fun c58 => ?_) (fun c58 => ?_)
    · have hF := iteB_t c58 hF
      refine WP_seq_k fun K59 hK59 => ?_
      refine WP_region ?_
      refine RL_do rfl rfl (Do_move (v := .int .i64 x49) rfl) ?_
      refine RL_do rfl rfl (Do_assign (v := .bool false) rfl) ?_
      refine RL_do rfl rfl (Do_assign (v := .int .i64 x49) rfl) ?_
      refine (RL_nil (thenQ_n (hK59 _ _ ?_)))
      have hR := Option.some.inj hF
      subst hR
      refine (WP_ret (thenQ_r (post2 (v1 := .bool false) (v2 := .int .i64 x49) rfl rfl rfl ?_)))
      exact ⟨rfl, H.pick [] (by decide)⟩
    · have hF := iteB_f c58 hF
      refine (WP_skip (thenQ_n (hK46 _ _ ?_)))
      refine WP_seq_k fun K60 hK60 => ?_
      have H61 := H
      have H := H.rebase
      have H62 := H
      refine WP_mix0 H [0, 1, 2, 3, 4, 5, 6, 7, 8, 9, 10, 11, 12, 13, 14, 15, 16] [.pure, .pure, .pure, .pure, .pure, .pure, .read, .pure, .pure, .pure, .pure, .pure, .pure, .read, .pure, .pure, .pure] mixed (by kernel_rfl) (by kernel_rfl) (by kernel_rfl) rfl ?_
      refine Mx.XL_pure rfl rfl rfl (fun w' hw' => Do_move (v := v1) rfl) ?_
      refine Mx.XL_pure rfl rfl rfl (fun w' hw' => Do_move (v := .int .i64 p1) rfl) ?_
      refine Mx.XL_pure rfl rfl rfl (fun w' hw' => Do_move (v := .int .i64 p1) rfl) ?_
      obtain ⟨x63, e64, hF⟩ := letO_some hF
      refine Mx.XL_pure rfl rfl rfl (fun w' hw' => Do_add (a := p1) (b := 96) rfl rfl e64) ?_
      obtain ⟨x65, e66, hF⟩ := bindO_some hF
      refine Mx.XL_exP rfl rfl rfl (Lx_slice_lh u22 sz5 (H.item (i := 0) rfl) rfl rfl rfl e66) ?_
      rintro v67 h68
      have H := H.fz (.sl (Rp.int .u8) v67 x65) h68
      obtain ⟨x70, e71, hF⟩ := bindO_some hF
      obtain ⟨b72, o73, h74, h75, h76, h77⟩ := Lx_toArr (e := (Fl.int .u8)) (r := (Rp.int .u8)) (fun _ _ _ _ => Iff.rfl) rfl (H.item (i := 4) rfl) e71 (by decide)
      have H := H.fz (.at b72 o73 _) ⟨h75, h76, h77⟩
      refine Mx.XL_pure rfl rfl rfl (fun w' hw' => Do_toArrF u116 rfl h74 e71) ?_
      refine Mx.XL_read oS rfl rfl rfl (fun w' hw' => Do_loadF (e := (Fl.arr 96 (Fl.int .u8))) (a := x70) agg116 rfl sz116 ((H.sees hw').item (i := 5) rfl).2.2) ?_
      refine Mx.XL_pure rfl rfl rfl (fun w' hw' => Do_move (v := v3) rfl) ?_
      refine Mx.XL_pure rfl rfl rfl (fun w' hw' => Do_move (v := .int .i64 p3) rfl) ?_
      refine Mx.XL_pure rfl rfl rfl (fun w' hw' => Do_move (v := .int .i64 p3) rfl) ?_
      obtain ⟨x79, e80, hF⟩ := letO_some hF
      refine Mx.XL_pure rfl rfl rfl (fun w' hw' => Do_add (a := p3) (b := 96) rfl rfl e80) ?_
      obtain ⟨x81, e82, hF⟩ := bindO_some hF
      refine Mx.XL_exP rfl rfl rfl (Lx_slice_lh u22 sz5 (H.item (i := 1) rfl) rfl rfl rfl e82) ?_
      rintro v83 h84
      have H := H.fz (.sl (Rp.int .u8) v83 x81) h84
      obtain ⟨x86, e87, hF⟩ := bindO_some hF
      obtain ⟨b88, o89, h90, h91, h92, h93⟩ := Lx_toArr (e := (Fl.int .u8)) (r := (Rp.int .u8)) (fun _ _ _ _ => Iff.rfl) rfl (H.item (i := 6) rfl) e87 (by decide)
      have H := H.fz (.at b88 o89 _) ⟨h91, h92, h93⟩
      refine Mx.XL_pure rfl rfl rfl (fun w' hw' => Do_toArrF u116 rfl h90 e87) ?_
      refine Mx.XL_read oS rfl rfl rfl (fun w' hw' => Do_loadF (e := (Fl.arr 96 (Fl.int .u8))) (a := x86) agg116 rfl sz116 ((H.sees hw').item (i := 7) rfl).2.2) ?_
      obtain ⟨x95, e96, hF⟩ := letO_some hF
      refine Mx.XL_pure rfl rfl rfl (fun w' hw' => Do_as (Do_eqlF (e := (Fl.arr 96 (Fl.int .u8))) (a := x70) (b := x86) (by kernel_rfl) eqf116 (by decide) agg116 sz116 rfl rfl) (congrArg Value.bool e96)) ?_
      refine Mx.XL_pure rfl rfl rfl (fun w' hw' => Do_assign (v := .bool x95) rfl) ?_
      refine Mx.XL_pure rfl rfl rfl (fun w' hw' => Do_assign (v := .int .i64 0) rfl) ?_
      refine Mx.XL_nil fun w97 hS => ?_
      have H := H.sees hS
      have H := H61.rejoin H
      refine (thenQ_n (hK60 _ _ ?_))
      have hR := Option.some.inj hF
      subst hR
      refine (WP_ret (post2 (v1 := .bool x95) (v2 := .int .i64 0) rfl rfl rfl ?_))
      exact ⟨rfl, H.pick [] (by decide)⟩
end Go.Proofs.YtafgmocdnjdmoaaDoor.L
namespace Go.Proofs.YtafgmocdnjdmoaaDoor.L
open Go.RowKit Go.OB Go.Lf
/- orangebox/orangeboxref1.Same -/
set_option maxHeartbeats 4000000 in
theorem F_ref1_Same_w (p0 : List Int) (p1 : Int) (p2 : List Int) (p3 : Int) (v1 : Value) (v3 : Value) (r : Bool × Int) (hF : F_ref1_Same p0 p1 p2 p3 = some r) (O S : List Nat) (w : World) (H : Hd O w w S [.fz (.sl (Rp.int .u8) v1 p0), .fz (.sl (Rp.int .u8) v3 p2)]) :
    Calls Tryd.prog 67 ([v1, .int .i64 p1, v3, .int .i64 p3] : List Value).toArray w fun e w' => e = .returned (.tuple #[.bool r.1, .int .i64 r.2]) ∧ Hd O w w' S [] := by
  unfold F_ref1_Same at hF
  refine calls_of_WP 37 Tryd.func67 rfl rfl rfl ?_
  refine WP_seq_k fun K5 hK5 => ?_
  refine WP_region ?_
  refine RL_do rfl rfl (Do_assign (v := .bool false) rfl) ?_
  refine RL_do rfl rfl (Do_assign (v := .int .i64 0) rfl) ?_
  refine (RL_nil (thenQ_n (hK5 _ _ ?_)))
  refine WP_seq_k fun K17 hK17 => ?_
  refine WP_seq_k fun K18 hK18 => ?_
  refine WP_region ?_
  refine RL_do rfl rfl (Do_move (v := v1) rfl) ?_
  refine RL_do rfl rfl (Do_move (v := .int .i64 p1) rfl) ?_
  have H19 := H
  obtain ⟨x20, e21, hF⟩ := bindO_some hF
  refine RL_call rfl rfl (DoC_func en73 rfl) (F_ref1_Place_w p0 p1 96 v1 _ e21 _ _ _ (H.enter [] [0] (by decide) rfl)) ?_
  rintro _ w22 ⟨rfl, G23⟩
  have H := H19.step (G23.only : Only [] _ _)
  refine ⟨_, rfl, ?_⟩
  refine RL_do rfl rfl (Do_assign (v := .int .i64 x20) rfl) ?_
  refine (RL_nil (thenQ_n (hK18 _ _ ?_)))
  refine WP_seq_k fun K24 hK24 => ?_
  refine WP_region ?_
  refine RL_do rfl rfl (Do_move (v := .int .i64 x20) rfl) ?_
  obtain ⟨x25, e26, hF⟩ := letO_some hF
  refine RL_do rfl rfl (Do_as (Do_neq (a := x20) (b := 0) rfl rfl) (congrArg Value.bool e26)) ?_
  refine (RL_nil (thenQ_n (hK24 _ _ ?_)))
  refine WP_ifb (b := x25) rfl (fun c27 => ?_) (fun c27 => ?_)
  · have hF := iteB_t c27 hF
    refine WP_seq_k fun K28 hK28 => ?_
    refine WP_region ?_
    refine RL_do rfl rfl (Do_move (v := .int .i64 x20) rfl) ?_
    refine RL_do rfl rfl (Do_assign (v := .bool false) rfl) ?_
    refine RL_do rfl rfl (Do_assign (v := .int .i64 x20) rfl) ?_
    refine (RL_nil (thenQ_n (hK28 _ _ ?_)))
    have hR := Option.some.inj hF
    subst hR
    refine (WP_ret (thenQ_r (post2 (v1 := .bool false) (v2 := .int .i64 x20) rfl rfl rfl ?_)))
    exact ⟨rfl, H.pick [] (by decide)⟩
  · have hF := iteB_f c27 hF
    refine (WP_skip (thenQ_n (hK17 _ _ ?_)))
    refine WP_seq_k fun K40 hK40 => ?_
    refine WP_seq_k fun K41 hK41 => ?_
    refine WP_region ?_
    refine RL_do rfl rfl (Do_move (v := v3) rfl) ?_
    refine RL_do rfl rfl (Do_move (v := .int .i64 p3) rfl) ?_
    have H42 := H
    obtain ⟨x43, e44, hF⟩ := bindO_some hF
    refine RL_call rfl rfl (DoC_func en73 rfl) (F_ref1_Place_w p2 p3 96 v3 _ e44 _ _ _ (H.enter [] [1] (by decide) rfl)) ?_
    rintro _ w45 ⟨rfl, G46⟩
    have H := H42.step (G46.only : Only [] _ _)
    refine ⟨_, rfl, ?_⟩
    refine RL_do rfl rfl (Do_assign (v := .int .i64 x43) rfl) ?_
    refine (RL_nil (thenQ_n (hK41 _ _ ?_)))
    refine WP_seq_k fun K47 hK47 => ?_
    refine WP_region ?_
    refine RL_do rfl rfl (Do_move (v := .int .i64 x43) rfl) ?_
    obtain ⟨x48, e49, hF⟩ := letO_some hF
    refine RL_do rfl rfl (Do_as (Do_neq (a := x43) (b := 0) rfl rfl) (congrArg Value.bool e49)) ?_
    refine (RL_nil (thenQ_n (hK47 _ _ ?_)))
    refine WP_ifb (b := x48) rfl (fun c50 => ?_) (fun c50 => ?_)
    · have hF := iteB_t c50 hF
      refine WP_seq_k fun K51 hK51 => ?_
      refine WP_region ?_
      refine RL_do rfl rfl (Do_move (v := .int .i64 x43) rfl) ?_
      refine RL_do rfl rfl (Do_assign (v := .bool false) rfl) ?_
      refine RL_do rfl rfl (Do_assign (v := .int .i64 x43) rfl) ?_
      refine (RL_nil (thenQ_n (hK51 _ _ ?_)))
      have hR := Option.some.inj hF
      subst hR
      refine (WP_ret (thenQ_r (post2 (v1 := .bool false) (v2 := .int .i64 x43) rfl rfl rfl ?_)))
      exact ⟨rfl, H.pick [] (by decide)⟩
    · have hF := iteB_f c50 hF
      refine (WP_skip (thenQ_n (hK40 _ _ ?_)))
      refine WP_seq_k fun K52 hK52 => ?_
      have H53 := H
      have H := H.rebase
      have H54 := H
      refine WP_mix0 H [0, 1, 2, 3, 4, 5, 6, 7, 8, 9, 10, 11, 12, 13, 14] [.pure, .pure, .pure, .pure, .pure, .read, .pure, .pure, .pure, .pure, .pure, .read, .pure, .pure, .pure] mixed (by kernel_rfl) (by kernel_rfl) (by kernel_rfl) rfl ?_
      refine Mx.XL_pure rfl rfl rfl (fun w' hw' => Do_move (v := v1) rfl) ?_
      refine Mx.XL_pure rfl rfl rfl (fun w' hw' => Do_move (v := .int .i64 p1) rfl) ?_
      refine Mx.XL_pure rfl rfl rfl (fun w' hw' => Do_move (v := .int .i64 p1) rfl) ?_
      obtain ⟨x55, e56, hF⟩ := letO_some hF
      refine Mx.XL_pure rfl rfl rfl (fun w' hw' => Do_add (a := p1) (b := 96) rfl rfl e56) ?_
      obtain ⟨x57, e58, hF⟩ := bindO_some hF
      refine Mx.XL_exP rfl rfl rfl (Lx_slice_lh u22 sz5 (H.item (i := 0) rfl) rfl rfl rfl e58) ?_
      rintro v59 h60
      have H := H.fz (.sl (Rp.int .u8) v59 x57) h60
      obtain ⟨x62, e63, hF⟩ := letO_some hF
      refine Mx.XL_read oS rfl rfl rfl (fun w' hw' => Do_as (Do_bytestr (xl := x57) u22 u5 u9 rfl (Sr.of_rd ((H.sees hw').item (i := 2) rfl))) (congrArg (fun s => Value.string (bs s)) e63)) ?_
      refine Mx.XL_pure rfl rfl rfl (fun w' hw' => Do_move (v := v3) rfl) ?_
      refine Mx.XL_pure rfl rfl rfl (fun w' hw' => Do_move (v := .int .i64 p3) rfl) ?_
      refine Mx.XL_pure rfl rfl rfl (fun w' hw' => Do_move (v := .int .i64 p3) rfl) ?_
      obtain ⟨x64, e65, hF⟩ := letO_some hF
      refine Mx.XL_pure rfl rfl rfl (fun w' hw' => Do_add (a := p3) (b := 96) rfl rfl e65) ?_
      obtain ⟨x66, e67, hF⟩ := bindO_some hF
      refine Mx.XL_exP rfl rfl rfl (Lx_slice_lh u22 sz5 (H.item (i := 1) rfl) rfl rfl rfl e67) ?_
      rintro v68 h69
      have H := H.fz (.sl (Rp.int .u8) v68 x66) h69
      obtain ⟨x71, e72, hF⟩ := letO_some hF
      refine Mx.XL_read oS rfl rfl rfl (fun w' hw' => Do_as (Do_bytestr (xl := x66) u22 u5 u9 rfl (Sr.of_rd ((H.sees hw').item (i := 3) rfl))) (congrArg (fun s => Value.string (bs s)) e72)) ?_
      obtain ⟨x73, e74, hF⟩ := letO_some hF
      refine Mx.XL_pure rfl rfl rfl (fun w' hw' => Do_as (Do_eqls (s1 := x62) (s2 := x71) rfl rfl) (congrArg Value.bool e74)) ?_
      refine Mx.XL_pure rfl rfl rfl (fun w' hw' => Do_assign (v := .bool x73) rfl) ?_
      refine Mx.XL_pure rfl rfl rfl (fun w' hw' => Do_assign (v := .int .i64 0) rfl) ?_
      refine Mx.XL_nil fun w75 hS => ?_
      have H := H.sees hS
      have H := H53.rejoin H
      refine (thenQ_n (hK52 _ _ ?_))
      have hR := Option.some.inj hF
      subst hR
      refine (WP_ret (post2 (v1 := .bool x73) (v2 := .int .i64 0) rfl rfl rfl ?_))
      exact ⟨rfl, H.pick [] (by decide)⟩
end Go.Proofs.YtafgmocdnjdmoaaDoor.L
namespace Go.Proofs.YtafgmocdnjdmoaaDoor.L
open Go.RowKit Go.OB Go.Lf
/- orangebox/frame.Frames -/
set_option maxHeartbeats 4000000 in
theorem F_frame_Frames_w (p0 : List Int) (v1 : Value) (r : (List (Arr 64 Int)) × Int) (hF : F_frame_Frames p0 = some r) (O S : List Nat) (w : World) (H : Hd O w w S [.fz (.sl (Rp.int .u8) v1 p0)]) :
    Calls Tryd.prog 68 ([v1] : List Value).toArray w fun e w' => ∃ u3, e = .returned (.tuple #[u3, .int .i64 r.2]) ∧ Hd O w w' S [.own (Rp.fl (Fl.arr 64 (Fl.int .u16))) u3 25 r.1] := by
  unfold F_frame_Frames at hF
  refine calls_of_WP 20 Tryd.func68 rfl rfl rfl ?_
  refine WP_seq_k fun K4 hK4 => ?_
  refine WP_region ?_
  refine RL_do rfl rfl (Do_assign (v := .slice none 0 0) rfl) ?_
  refine RL_do rfl rfl (Do_assign (v := .int .i64 0) rfl) ?_
  refine (RL_nil (thenQ_n (hK4 _ _ ?_)))
  refine WP_seq_k fun K5 hK5 => ?_
  refine WP_region ?_
  refine RL_do rfl rfl (Do_assign (v := .slice none 0 0) rfl) ?_
  refine (RL_nil (thenQ_n (hK5 _ _ ?_)))
  obtain ⟨j136, hF, hK135⟩ := bindO_some hF
  refine WP_seqS [0, 4, 5, 6, 7, 8, 9, 10, 11, 12, 13, 14, 15, 16] (fun (g : Value × Value) => [(0, g.1), (4, g.2)]) (fun g wl => Hd O w wl S [.fz (.sl (Rp.int .u8) g.1 j136.1), .own (Rp.fl (Fl.arr 64 (Fl.int .u16))) g.2 25 j136.2]) ?_ ?_
  · skip
    refine WP_block ?_
    have H := own_nil H (Rp.fl (Fl.arr 64 (Fl.int .u16))) 25
    unfold F_frame_Frames_L1 at hF
    obtain ⟨B259, n260, eB261, hF⟩ := loopO_some hF
    refine WP_loopS [0, 4, 5, 6, 7, 8, 9, 10, 11, 12, 13, 14, 15, 16] (fun (g : Nat × (List Int) × (List (Arr 64 Int)) × Value × Value) => [(0, g.2.2.2.1), (4, g.2.2.2.2)]) (fun g wl => Hd O w wl S [.fz (.sl (Rp.int .u8) g.2.2.2.1 g.2.1), .own (Rp.fl (Fl.arr 64 (Fl.int .u16))) g.2.2.2.2 25 g.2.2.1] ∧ loopN B259 g.1 (g.2.1, g.2.2.1) = some j136) (fun g => g.1) (n260, p0, [], v1, .slice none 0 0) (Sl_cons rfl (Sl_cons rfl Sl_nil)) ⟨H.pick [0, 1] (by decide), hF⟩ ?_
    clear H hF
    rintro ⟨n260, g253, g256, v254, v257⟩ ρ w263 ⟨H, hF⟩
    obtain ⟨n264, rfl, hF⟩ := loopN_pos hF
    have hF := loop_body eB261 hF
    refine WP_seq_k fun K274 hK274 => ?_
    refine WP_seq_k fun K275 hK275 => ?_
    refine WP_region ?_
    refine RL_do rfl rfl (Do_move (v := v254) rfl) ?_
    obtain ⟨x276, e277, hF⟩ := letO_some hF
    obtain ⟨a278, c279, q280⟩ := SlF.len ((H.item (i := 0) rfl))
    refine RL_do rfl rfl (Do_as (Do_len u22 q280) (congrArg (Value.int .i64) e277)) ?_
    obtain ⟨x281, e282, hF⟩ := letO_some hF
    refine RL_do rfl rfl (Do_as (Do_geq (a := x276) (b := 96) rfl rfl) (congrArg Value.bool e282)) ?_
    refine (RL_nil (thenQ_n (hK275 _ _ ?_)))
    refine WP_ifb (b := x281) rfl (fun c283 => ?_) (fun c283 => ?_)
    · have hF := iteB_t c283 hF
      refine (WP_skip (thenQ_n (hK274 _ _ ?_)))
      refine WP_block ?_
      refine WP_seq_k fun K284 hK284 => ?_
      refine WP_region ?_
      refine RL_do rfl rfl (Do_move (v := v257) rfl) ?_
      refine RL_do rfl rfl (Do_move (v := v254) rfl) ?_
      obtain ⟨x285, e286, hF⟩ := bindO_some hF
      refine RL_exP rfl rfl (Lx_slice_h u22 sz5 (H.item (i := 0) rfl) rfl rfl e286) ?_
      rintro v287 h288
      have H := H.fz (.sl (Rp.int .u8) v287 x285) h288
      obtain ⟨x290, e291, hF⟩ := bindO_some hF
      obtain ⟨b292, o293, h294, h295, h296, h297⟩ := Lx_toArr (e := (Fl.int .u8)) (r := (Rp.int .u8)) (fun _ _ _ _ => Iff.rfl) rfl (H.item (i := 2) rfl) e291 (by decide)
      have H := H.fz (.at b292 o293 _) ⟨h295, h296, h297⟩
      refine RL_do rfl rfl (Do_toArrF u116 rfl h294 e291) ?_
      have H299 := H
      have H := H.fz (.pt (Rp.fl (Fl.arr 96 (Fl.int .u8))) (some ⟨b292, o293, none⟩) (some x290)) ⟨_, _, _, rfl, (H.item (i := 3) rfl).1, (H.item (i := 3) rfl).2.1, rfl, (H.item (i := 3) rfl).2.2⟩
      obtain ⟨x301, e302, hF⟩ := bindO_some hF
      refine RL_call rfl rfl (DoC_func en94 rfl) (F_frame_load_w (some x290) (some ⟨b292, o293, none⟩) _ e302 _ _ _ (H.enter [] [4] (by decide) rfl)) ?_
      rintro _ w303 ⟨rfl, G304⟩
      have H := H299.step (G304.only : Only [] _ _)
      refine ⟨_, rfl, ?_⟩
      obtain ⟨x305, e306, hF⟩ := letO_some hF
      subst e306
      refine RL_ex rfl rfl (Lx_bs (r := (Rp.fl (Fl.arr 64 (Fl.int .u16)))) (xl := [x301]) (cs := (Fl.arr 64 (Fl.int .u16)).f x301) u90 el25 (by decide) (by decide) rfl (fillB_one (e := (Fl.arr 64 (Fl.int .u16))) (a := x301) (by decide) (by decide) rfl) H (rows_single (r := (Rp.fl (Fl.arr 64 (Fl.int .u16)))) rfl)) ?_
      rintro v308 w309 H
      obtain ⟨x310, e311, hF⟩ := bindO_some hF
      refine RL_ex rfl rfl (Lx_app H (i := 1) rfl u90 el25 rfl rfl (Sr.of_own (H.item (i := 4) rfl)) e311) ?_
      rintro v312 w313 H
      refine RL_do rfl rfl (Do_assign (v := v312) rfl) ?_
      refine (RL_nil (thenQ_n (hK284 _ _ ?_)))
      refine WP_region ?_
      refine RL_do rfl rfl (Do_move (v := v254) rfl) ?_
      obtain ⟨x314, e315, hF⟩ := bindO_some hF
      refine RL_exP rfl rfl (Lx_slice_l u22 sz5 (H.item (i := 0) rfl) rfl rfl e315) ?_
      rintro v316 h317
      have H := H.fz (.sl (Rp.int .u8) v316 x314) h317
      refine RL_do rfl rfl (Do_assign (v := v316) rfl) ?_
      refine (RL_nil (blockQ_n (thenQ_n (And.intro ?_ ?_))))
      · repeat' (first | with_reducible exact Fr_refl | refine Fr_upd rfl ?_ | refine Fr_over rfl rfl ?_)
      · exact ⟨(n264, x314, x310, v316, v312), (Sl_cons rfl (Sl_cons rfl Sl_nil)), ⟨H.pick [5, 1] (by decide), hF⟩, Nat.lt_succ_self _⟩
    · have hF := iteB_f c283 hF
      have hR := Option.some.inj hF
      subst hR
      refine (WP_exit (thenQ_x (thenQ_x (blockQ_eq (thenQ_n (And.intro ?_ ?_))))))
      · repeat' (first | with_reducible exact Fr_refl | refine Fr_upd rfl ?_ | refine Fr_over rfl rfl ?_)
      · exact ⟨(v254, v257), (Sl_cons rfl (Sl_cons rfl Sl_nil)), H.pick [0, 1] (by decide)⟩
  · rintro ⟨v130, v133⟩ ρ w134 H
    have hF := hK135
    obtain ⟨g129, g132⟩ := j136
    refine WP_seq_k fun K319 hK319 => ?_
    refine WP_region ?_
    refine RL_do rfl rfl (Do_move (v := v133) rfl) ?_
    refine RL_do rfl rfl (Do_move (v := v130) rfl) ?_
    obtain ⟨x320, e321, hF⟩ := letO_some hF
    obtain ⟨a322, c323, q324⟩ := SlF.len ((H.item (i := 0) rfl))
    refine RL_do rfl rfl (Do_as (Do_len u22 q324) (congrArg (Value.int .i64) e321)) ?_
    refine RL_do rfl rfl (Do_assign (v := v133) rfl) ?_
    refine RL_do rfl rfl (Do_assign (v := .int .i64 x320) rfl) ?_
    refine (RL_nil (thenQ_n (hK319 _ _ ?_)))
    have hR := Option.some.inj hF
    subst hR
    refine (WP_ret (post2 (v1 := v133) (v2 := .int .i64 x320) rfl rfl rfl ?_))
    exact ⟨v133, rfl, H.pick [1] (by decide)⟩
end Go.Proofs.YtafgmocdnjdmoaaDoor.L
namespace Go.Proofs.YtafgmocdnjdmoaaDoor.L
open Go.RowKit Go.OB Go.Lf
/- orangebox/orangeboxref1.Frames -/
set_option maxHeartbeats 4000000 in
theorem F_ref1_Frames_w (p0 : List Int) (v1 : Value) (r : (List (Arr 64 Int)) × Int) (hF : F_ref1_Frames p0 = some r) (O S : List Nat) (w : World) (H : Hd O w w S [.fz (.sl (Rp.int .u8) v1 p0)]) :
    Calls Tryd.prog 69 ([v1] : List Value).toArray w fun e w' => ∃ u3, e = .returned (.tuple #[u3, .int .i64 r.2]) ∧ Hd O w w' S [.own (Rp.fl (Fl.arr 64 (Fl.int .u16))) u3 25 r.1] := by
  unfold F_ref1_Frames at hF
  refine calls_of_WP 18 Tryd.func69 rfl rfl rfl ?_
  refine WP_seq_k fun K4 hK4 => ?_
  refine WP_region ?_
  refine RL_do rfl rfl (Do_assign (v := .slice none 0 0) rfl) ?_
  refine RL_do rfl rfl (Do_assign (v := .int .i64 0) rfl) ?_
  refine (RL_nil (thenQ_n (hK4 _ _ ?_)))
  refine WP_seq_k fun K5 hK5 => ?_
  refine WP_region ?_
  refine RL_do rfl rfl (Do_assign (v := .slice none 0 0) rfl) ?_
  refine (RL_nil (thenQ_n (hK5 _ _ ?_)))
  obtain ⟨j135, hF, hK134⟩ := bindO_some hF
  refine WP_seqS [0, 4, 5, 6, 7, 8, 9, 10, 11, 12, 13, 14] (fun (g : Value × Value) => [(0, g.1), (4, g.2)]) (fun g wl => Hd O w wl S [.fz (.sl (Rp.int .u8) g.1 j135.1), .own (Rp.fl (Fl.arr 64 (Fl.int .u16))) g.2 25 j135.2]) ?_ ?_
  · skip
    refine WP_block ?_
    have H := own_nil H (Rp.fl (Fl.arr 64 (Fl.int .u16))) 25
    unfold F_ref1_Frames_L1 at hF
    obtain ⟨B257, n258, eB259, hF⟩ := loopO_some hF
    refine WP_loopS [0, 4, 5, 6, 7, 8, 9, 10, 11, 12, 13, 14] (fun (g : Nat × (List Int) × (List (Arr 64 Int)) × Value × Value) => [(0, g.2.2.2.1), (4, g.2.2.2.2)]) (fun g wl => Hd O w wl S [.fz (.sl (Rp.int .u8) g.2.2.2.1 g.2.1), .own (Rp.fl (Fl.arr 64 (Fl.int .u16))) g.2.2.2.2 25 g.2.2.1] ∧ loopN B257 g.1 (g.2.1, g.2.2.1) = some j135) (fun g => g.1) (n258, p0, [], v1, .slice none 0 0) (Sl_cons rfl (Sl_cons rfl Sl_nil)) ⟨H.pick [0, 1] (by decide), hF⟩ ?_
    clear H hF
    rintro ⟨n258, g251, g254, v252, v255⟩ ρ w261 ⟨H, hF⟩
    obtain ⟨n262, rfl, hF⟩ := loopN_pos hF
    have hF := loop_body eB259 hF
    refine WP_seq_k fun K272 hK272 => ?_
    refine WP_seq_k fun K273 hK273 => ?_
    refine WP_region ?_
    refine RL_do rfl rfl (Do_move (v := v252) rfl) ?_
    obtain ⟨x274, e275, hF⟩ := letO_some hF
    obtain ⟨a276, c277, q278⟩ := SlF.len ((H.item (i := 0) rfl))
    refine RL_do rfl rfl (Do_as (Do_len u22 q278) (congrArg (Value.int .i64) e275)) ?_
    obtain ⟨x279, e280, hF⟩ := letO_some hF
    refine RL_do rfl rfl (Do_as (Do_geq (a := x274) (b := 96) rfl rfl) (congrArg Value.bool e280)) ?_
    refine (RL_nil (thenQ_n (hK273 _ _ ?_)))
    refine WP_ifb (b := x279) rfl (fun c281 => ?_) (fun c281 => ?_)
    · have hF := iteB_t c281 hF
      refine (WP_skip (thenQ_n (hK272 _ _ ?_)))
      refine WP_seq_k fun K296 hK296 => ?_
      refine WP_block ?_
      refine WP_region ?_
      refine RL_do rfl rfl (Do_move (v := v255) rfl) ?_
      refine RL_do rfl rfl (Do_move (v := v252) rfl) ?_
      have H297 := H
      obtain ⟨x298, e299, hF⟩ := bindO_some hF
      refine RL_call rfl rfl (DoC_func en81 rfl) (F_ref1_frame_w g251 v252 _ e299 _ _ _ (H.enter [] [0] (by decide) rfl)) ?_
      rintro _ w300 ⟨rfl, G301⟩
      have H := H297.step (G301.only : Only [] _ _)
      refine ⟨_, rfl, ?_⟩
      obtain ⟨x302, e303, hF⟩ := letO_some hF
      subst e303
      refine RL_ex rfl rfl (Lx_bs (r := (Rp.fl (Fl.arr 64 (Fl.int .u16)))) (xl := [x298]) (cs := (Fl.arr 64 (Fl.int .u16)).f x298) u90 el25 (by decide) (by decide) rfl (fillB_one (e := (Fl.arr 64 (Fl.int .u16))) (a := x298) (by decide) (by decide) rfl) H (rows_single (r := (Rp.fl (Fl.arr 64 (Fl.int .u16)))) rfl)) ?_
      rintro v305 w306 H
      obtain ⟨x307, e308, hF⟩ := bindO_some hF
      refine RL_ex rfl rfl (Lx_app H (i := 1) rfl u90 el25 rfl rfl (Sr.of_own (H.item (i := 2) rfl)) e308) ?_
      rintro v309 w310 H
      refine RL_do rfl rfl (Do_assign (v := v309) rfl) ?_
      refine (RL_nil (blockQ_n (thenQ_n (hK296 _ _ ?_))))
      refine WP_region ?_
      refine RL_do rfl rfl (Do_move (v := v252) rfl) ?_
      obtain ⟨x311, e312, hF⟩ := bindO_some hF
      refine RL_exP rfl rfl (Lx_slice_l u22 sz5 (H.item (i := 0) rfl) rfl rfl e312) ?_
      rintro v313 h314
      have H := H.fz (.sl (Rp.int .u8) v313 x311) h314
      refine RL_do rfl rfl (Do_assign (v := v313) rfl) ?_
      refine (RL_nil (thenQ_n (And.intro ?_ ?_)))
      · repeat' (first | with_reducible exact Fr_refl | refine Fr_upd rfl ?_ | refine Fr_over rfl rfl ?_)
      · exact ⟨(n262, x311, x307, v313, v309), (Sl_cons rfl (Sl_cons rfl Sl_nil)), ⟨H.pick [3, 1] (by decide), hF⟩, Nat.lt_succ_self _⟩
    · have hF := iteB_f c281 hF
      have hR := Option.some.inj hF
      subst hR
      refine (WP_exit (thenQ_x (thenQ_x (blockQ_eq (thenQ_n (And.intro ?_ ?_))))))
      · repeat' (first | with_reducible exact Fr_refl | refine Fr_upd rfl ?_ | refine Fr_over rfl rfl ?_)
      · exact ⟨(v252, v255), (Sl_cons rfl (Sl_cons rfl Sl_nil)), H.pick [0, 1] (by decide)⟩
  · rintro ⟨v129, v132⟩ ρ w133 H
    have hF := hK134
    obtain ⟨g128, g131⟩ := j135
    refine WP_seq_k fun K316 hK316 => ?_
    refine WP_region ?_
    refine RL_do rfl rfl (Do_move (v := v132) rfl) ?_
    refine RL_do rfl rfl (Do_move (v := v129) rfl) ?_
    obtain ⟨x317, e318, hF⟩ := letO_some hF
    obtain ⟨a319, c320, q321⟩ := SlF.len ((H.item (i := 0) rfl))
    refine RL_do rfl rfl (Do_as (Do_len u22 q321) (congrArg (Value.int .i64) e318)) ?_
    refine RL_do rfl rfl (Do_assign (v := v132) rfl) ?_
    refine RL_do rfl rfl (Do_assign (v := .int .i64 x317) rfl) ?_
    refine (RL_nil (thenQ_n (hK316 _ _ ?_)))
    have hR := Option.some.inj hF
    subst hR
    refine (WP_ret (post2 (v1 := v132) (v2 := .int .i64 x317) rfl rfl rfl ?_))
    exact ⟨v132, rfl, H.pick [1] (by decide)⟩
end Go.Proofs.YtafgmocdnjdmoaaDoor.L
namespace Go.Proofs.YtafgmocdnjdmoaaDoor.L
open Go.RowKit Go.OB Go.Lf
/- slices.Equal[[]orangebox/api.Frame,orangebox/api.Frame] -/
set_option maxHeartbeats 4000000 in
theorem F_slices_Equal___api_Frame_api_Frame__w (p0 : List (Arr 64 Int)) (p1 : List (Arr 64 Int)) (v1 : Value) (v3 : Value) (r : Bool) (hF : F_slices_Equal___api_Frame_api_Frame_ p0 p1 = some r) (O S : List Nat) (w : World) (H : Hd O w w S [.fz (.sl (Rp.fl (Fl.arr 64 (Fl.int .u16))) v1 p0), .fz (.sl (Rp.fl (Fl.arr 64 (Fl.int .u16))) v3 p1)]) :
    Calls Tryd.prog 70 ([v1, v3] : List Value).toArray w fun e w' => e = .returned (.bool r) ∧ Hd O w w' S [] := by
  unfold F_slices_Equal___api_Frame_api_Frame_ at hF
  refine calls_of_WP 26 Tryd.func70 rfl rfl rfl ?_
  refine WP_seq_k fun K5 hK5 => ?_
  refine WP_region ?_
  refine RL_do rfl rfl (Do_assign (v := .bool false) rfl) ?_
  refine (RL_nil (thenQ_n (hK5 _ _ ?_)))
  refine WP_seq_k fun K21 hK21 => ?_
  refine WP_seq_k fun K22 hK22 => ?_
  refine WP_region ?_
  refine RL_do rfl rfl (Do_move (v := v1) rfl) ?_
  obtain ⟨x23, e24, hF⟩ := letO_some hF
  obtain ⟨a25, c26, q27⟩ := SlF.len ((H.item (i := 0) rfl))
  refine RL_do rfl rfl (Do_as (Do_len u90 q27) (congrArg (Value.int .i64) e24)) ?_
  refine RL_do rfl rfl (Do_move (v := v3) rfl) ?_
  obtain ⟨x28, e29, hF⟩ := letO_some hF
  obtain ⟨a30, c31, q32⟩ := SlF.len ((H.item (i := 1) rfl))
  refine RL_do rfl rfl (Do_as (Do_len u90 q32) (congrArg (Value.int .i64) e29)) ?_
  obtain ⟨x33, e34, hF⟩ := letO_some hF
  refine RL_do rfl rfl (Do_as (Do_neq (a := x23) (b := x28) rfl rfl) (congrArg Value.bool e34)) ?_
  refine (RL_nil (thenQ_n (hK22 _ _ ?_)))
  refine WP_ifb (b := x33) rfl (fun c35 => ?_) (fun c35 => ?_)
  · have hF := iteB_t c35 hF
    refine WP_seq_k fun K36 hK36 => ?_
    refine WP_region ?_
    refine RL_do rfl rfl (Do_assign (v := .bool false) rfl) ?_
    refine (RL_nil (thenQ_n (hK36 _ _ ?_)))
    have hR := Option.some.inj hF
    subst hR
    refine (WP_ret (thenQ_r (post1 (v1 := .bool false) rfl rfl ?_)))
    exact ⟨rfl, H.pick [] (by decide)⟩
  · have hF := iteB_f c35 hF
    refine (WP_skip (thenQ_n (hK21 _ _ ?_)))
    obtain ⟨k201, ek202, hF⟩ := joinO_some hF
    refine WP_seqS [4, 5, 11, 12, 13, 14, 15, 16, 17, 18, 19, 20, 21, 22, 23, 24, 25] (fun (g : Unit) => []) (fun g wl => Hd O w wl S [] ∧ k201 () = some r) ?_ ?_
    · skip
      refine WP_seq_k fun K203 hK203 => ?_
      refine WP_region ?_
      refine RL_do rfl rfl (Do_move (v := v1) rfl) ?_
      obtain ⟨x204, e205, hF⟩ := letO_some hF
      obtain ⟨a206, c207, q208⟩ := SlF.len ((H.item (i := 0) rfl))
      refine RL_do rfl rfl (Do_as (Do_len u90 q208) (congrArg (Value.int .i64) e205)) ?_
      refine RL_do rfl rfl (Do_move (v := .int .i64 0) rfl) ?_
      refine (RL_nil (thenQ_n (hK203 _ _ ?_)))
      refine WP_block ?_
      unfold F_slices_Equal___api_Frame_api_Frame__L1 at hF
      obtain ⟨B361, n362, eB363, hF⟩ := loopO_some hF
      refine WP_loopS [4, 5, 13, 14, 15, 16, 17, 18, 19, 20, 21, 22, 23, 24, 25] (fun (g : Nat × Int) => [(13, .int .i64 g.2)]) (fun g wl => Hd O w wl S [.fz (.sl (Rp.fl (Fl.arr 64 (Fl.int .u16))) v1 p0), .fz (.sl (Rp.fl (Fl.arr 64 (Fl.int .u16))) v3 p1)] ∧ loopN B361 g.1 g.2 = some r) (fun g => g.1) (n362, 0) (Sl_cons rfl Sl_nil) ⟨H.pick [0, 1] (by decide), hF⟩ ?_
      clear H hF
      rintro ⟨n362, g360⟩ ρ w365 ⟨H, hF⟩
      obtain ⟨n366, rfl, hF⟩ := loopN_pos hF
      have hF := loop_body eB363 hF
      refine WP_seq_k fun K367 hK367 => ?_
      refine WP_region ?_
      obtain ⟨x368, e369, hF⟩ := letO_some hF
      refine RL_do rfl rfl (Do_as (Do_lss (a := g360) (b := x204) rfl rfl) (congrArg Value.bool e369)) ?_
      refine (RL_nil (thenQ_n (hK367 _ _ ?_)))
      refine WP_seq_k fun K371 hK371 => ?_
      refine WP_ifb (b := x368) rfl (fun c372 => ?_) (fun c372 => ?_)
      · have hF := iteB_t c372 hF
        refine (WP_skip (thenQ_n (hK371 _ _ ?_)))
        refine WP_seq_k fun K406 hK406 => ?_
        refine WP_block ?_
        refine WP_seq_k fun K407 hK407 => ?_
        refine WP_region ?_
        refine RL_do rfl rfl (Do_move (v := .int .i64 g360) rfl) ?_
        refine RL_do rfl rfl (Do_assign (v := .int .i64 g360) rfl) ?_
        refine (RL_nil (thenQ_n (hK407 _ _ ?_)))
        refine WP_seq_k fun K408 hK408 => ?_
        have H409 := H
        have H := H.rebase
        have H410 := H
        refine WP_mix0 H [0, 1, 2, 3, 4, 5, 6, 7, 8] [.pure, .pure, .pure, .read, .pure, .pure, .pure, .read, .pure] mixed (by kernel_rfl) (by kernel_rfl) (by kernel_rfl) rfl ?_
        refine Mx.XL_pure rfl rfl rfl (fun w' hw' => Do_move (v := v1) rfl) ?_
        refine Mx.XL_pure rfl rfl rfl (fun w' hw' => Do_move (v := .int .i64 g360) rfl) ?_
        obtain ⟨x411, e412, hF⟩ := bindO_some hF
        obtain ⟨b413, o414, c415, cs416, q417, h420, h418, h419, h421⟩ := rd_at (H.item (i := 0) rfl) e412
        obtain rfl : cs416 = (Fl.arr 64 (Fl.int .u16)).f x411 := h420
        have H := H.fz (.at b413 (o414 + g360.toNat * 64) _) ⟨h418, h419, h421⟩
        refine Mx.XL_pure rfl rfl rfl (fun w' hw' => Do_idx u90 sz25 q417 rfl (at_some e412).1 (at_some e412).2.1 rfl rfl) ?_
        refine Mx.XL_read oS rfl rfl rfl (fun w' hw' => Do_loadF (e := (Fl.arr 64 (Fl.int .u16))) (a := x411) agg25 rfl sz25 ((H.sees hw').item (i := 2) rfl).2.2) ?_
        refine Mx.XL_pure rfl rfl rfl (fun w' hw' => Do_move (v := v3) rfl) ?_
        refine Mx.XL_pure rfl rfl rfl (fun w' hw' => Do_move (v := .int .i64 g360) rfl) ?_
        obtain ⟨x423, e424, hF⟩ := bindO_some hF
        obtain ⟨b425, o426, c427, cs428, q429, h432, h430, h431, h433⟩ := rd_at (H.item (i := 1) rfl) e424
        obtain rfl : cs428 = (Fl.arr 64 (Fl.int .u16)).f x423 := h432
        have H := H.fz (.at b425 (o426 + g360.toNat * 64) _) ⟨h430, h431, h433⟩
        refine Mx.XL_pure rfl rfl rfl (fun w' hw' => Do_idx u90 sz25 q429 rfl (at_some e424).1 (at_some e424).2.1 rfl rfl) ?_
        refine Mx.XL_read oS rfl rfl rfl (fun w' hw' => Do_loadF (e := (Fl.arr 64 (Fl.int .u16))) (a := x423) agg25 rfl sz25 ((H.sees hw').item (i := 3) rfl).2.2) ?_
        obtain ⟨x435, e436, hF⟩ := letO_some hF
        refine Mx.XL_pure rfl rfl rfl (fun w' hw' => Do_as (Do_neqF (e := (Fl.arr 64 (Fl.int .u16))) (a := x411) (b := x423) (by kernel_rfl) eqf25 (by decide) agg25 sz25 rfl rfl) (congrArg Value.bool e436)) ?_
        refine Mx.XL_nil fun w437 hS => ?_
        have H := H.sees hS
        have H := H409.rejoin H
        refine (thenQ_n (hK408 _ _ ?_))
        refine WP_ifb (b := x435) rfl (fun c438 => ?_) (fun c438 => ?_)
        · have hF := iteB_t c438 hF
          refine WP_seq_k fun K439 hK439 => ?_
          refine WP_region ?_
          refine RL_do rfl rfl (Do_assign (v := .bool false) rfl) ?_
          refine (RL_nil (thenQ_n (hK439 _ _ ?_)))
          have hR := Option.some.inj hF
          subst hR
          refine (WP_ret (blockQ_r (thenQ_r (thenQ_r (blockQ_r (thenQ_r (post1 (v1 := .bool false) rfl rfl ?_)))))))
          exact ⟨rfl, H.pick [] (by decide)⟩
        · have hF := iteB_f c438 hF
          refine (WP_skip (blockQ_n (thenQ_n (hK406 _ _ ?_))))
          refine WP_region ?_
          obtain ⟨x440, e441, hF⟩ := letO_some hF
          refine RL_do rfl rfl (Do_add (a := g360) (b := 1) rfl rfl e441) ?_
          refine RL_do rfl rfl (Do_move (v := .int .i64 x440) rfl) ?_
          refine (RL_nil (thenQ_n (And.intro ?_ ?_)))
          · repeat' (first | with_reducible exact Fr_refl | refine Fr_upd rfl ?_ | refine Fr_over rfl rfl ?_)
          · exact ⟨(n366, x440), (Sl_cons rfl Sl_nil), ⟨H.pick [0, 1] (by decide), hF⟩, Nat.lt_succ_self _⟩
      · have hF := iteB_f c372 hF
        refine (WP_exit (thenQ_x (thenQ_x (blockQ_eq (thenQ_n (And.intro ?_ ?_))))))
        · repeat' (first | with_reducible exact Fr_refl | refine Fr_upd rfl ?_ | refine Fr_over rfl rfl ?_)
        · exact ⟨(), Sl_nil, ⟨H.pick [] (by decide), hF⟩⟩
    · rintro _ ρ w200 ⟨H, hF⟩
      have hF := join_body ek202 hF
      refine WP_seq_k fun K442 hK442 => ?_
      refine WP_region ?_
      refine RL_do rfl rfl (Do_assign (v := .bool true) rfl) ?_
      refine (RL_nil (thenQ_n (hK442 _ _ ?_)))
      have hR := Option.some.inj hF
      subst hR
      refine (WP_ret (post1 (v1 := .bool true) rfl rfl ?_))
      exact ⟨rfl, H.pick [] (by decide)⟩
end Go.Proofs.YtafgmocdnjdmoaaDoor.L
namespace Go.Proofs.YtafgmocdnjdmoaaDoor.L
open Go.RowKit Go.OB Go.Lf
/- orangebox/frame.GetSecond -/
set_option maxHeartbeats 4000000 in
theorem F_frame_GetSecond_w (p0 : List Int) (p1 : Int) (v1 : Value) (r : (Arr 8 (Arr 64 Int)) × Int) (hF : F_frame_GetSecond p0 p1 = some r) (O S : List Nat) (w : World) (H : Hd O w w S [.fz (.sl (Rp.int .u8) v1 p0)]) :
    Calls Tryd.prog 71 ([v1, .int .i64 p1] : List Value).toArray w fun e w' => e = .returned (.tuple #[.agg ((Fl.arr 8 (Fl.arr 64 (Fl.int .u16))).f r.1).toArray, .int .i64 r.2]) ∧ Hd O w w' S [] := by
  unfold F_frame_GetSecond at hF
  refine calls_of_WP 36 Tryd.func71 rfl rfl rfl ?_
  refine WP_seq_k fun K3 hK3 => ?_
  refine WP_region ?_
  refine RL_ex rfl rfl (Lx_alloc zero56 H) ?_
  rintro _ w6 ⟨b4, rfl, H⟩
  refine RL_do rfl rfl (Do_assign (v := .int .i64 0) rfl) ?_
  refine (RL_nil (thenQ_n (hK3 _ _ ?_)))
  refine WP_seq_k fun K7 hK7 => ?_
  refine WP_region ?_
  refine RL_ex rfl rfl (Lx_alloc zero56 H) ?_
  rintro _ w10 ⟨b8, rfl, H⟩
  refine (RL_nil (thenQ_n (hK7 _ _ ?_)))
  refine WP_seq_k fun K23 hK23 => ?_
  refine WP_seq_k fun K24 hK24 => ?_
  refine WP_region ?_
  refine RL_do rfl rfl (Do_move (v := v1) rfl) ?_
  refine RL_do rfl rfl (Do_move (v := .int .i64 p1) rfl) ?_
  have H25 := H
  obtain ⟨x26, e27, hF⟩ := bindO_some hF
  refine RL_call rfl rfl (DoC_func en95 rfl) (F_frame_checkPlace_w p0 p1 768 v1 _ e27 _ _ _ (H.enter [] [0] (by decide) rfl)) ?_
  rintro _ w28 ⟨rfl, G29⟩
  have H := H25.step (G29.only : Only [] _ _)
  refine ⟨_, rfl, ?_⟩
  refine RL_do rfl rfl (Do_assign (v := .int .i64 x26) rfl) ?_
  refine (RL_nil (thenQ_n (hK24 _ _ ?_)))
  refine WP_seq_k fun K30 hK30 => ?_
  refine WP_region ?_
  refine RL_do rfl rfl (Do_move (v := .int .i64 x26) rfl) ?_
  obtain ⟨x31, e32, hF⟩ := letO_some hF
  refine RL_do rfl rfl (Do_as (Do_neq (a := x26) (b := 0) rfl rfl) (congrArg Value.bool e32)) ?_
  refine (RL_nil (thenQ_n (hK30 _ _ ?_)))
  refine WP_ifb (b := x31) rfl (fun c33 => ?_) (fun c33 => ?_)
  · have hF := iteB_t c33 hF
    refine WP_seq_k fun K34 hK34 => ?_
    refine WP_region ?_
    refine RL_do rfl rfl (Do_loadF (e := (Fl.arr 8 (Fl.arr 64 (Fl.int .u16)))) (a := (Arr.rep 8 (Arr.rep 64 0 : Arr 64 Int) : Arr 8 (Arr 64 Int))) agg56 rfl sz56 (Blk.cells (H.item (i := 2) rfl))) ?_
    refine RL_do rfl rfl (Do_move (v := .int .i64 x26) rfl) ?_
    refine RL_exU rfl (Lx_storeW (e := (Fl.arr 8 (Fl.arr 64 (Fl.int .u16)))) (a := (Arr.rep 8 (Arr.rep 64 0 : Arr 64 Int) : Arr 8 (Arr 64 Int))) (a' := (Arr.rep 8 (Arr.rep 64 0 : Arr 64 Int) : Arr 8 (Arr 64 Int))) H 1 rfl sz56 rfl rfl) ?_
    rintro w35 H
    refine RL_do rfl rfl (Do_assign (v := .int .i64 x26) rfl) ?_
    refine (RL_nil (thenQ_n (hK34 _ _ ?_)))
    have hR := Option.some.inj hF
    subst hR
    refine (WP_ret (thenQ_r (postc1 (v1 := .int .i64 x26) rfl rfl (run_loadVar_agg agg56 sz56 (Fl.len _ _) (Blk.cells (H.item (i := 1) rfl))) rfl ?_)))
    exact ⟨rfl, H.pick [] (by decide)⟩
  · have hF := iteB_f c33 hF
    refine (WP_skip (thenQ_n (hK23 _ _ ?_)))
    obtain ⟨g155, hF, hK157⟩ := bindO_some hF
    refine WP_seqS [8, 9, 10, 18, 19, 20, 21, 22, 23, 24, 25, 26, 27, 28, 29, 30, 31, 32, 33, 34] (fun (g : Unit) => []) (fun g wl => Hd O w wl S [.blk b4 ((Fl.arr 8 (Fl.arr 64 (Fl.int .u16))).f (Arr.rep 8 (Arr.rep 64 0 : Arr 64 Int) : Arr 8 (Arr 64 Int))) 56, .blk b8 ((Fl.arr 8 (Fl.arr 64 (Fl.int .u16))).f g155) 56]) ?_ ?_
    · skip
      refine WP_seq_k fun K158 hK158 => ?_
      refine WP_region ?_
      refine RL_do rfl rfl (Do_move (v := .int .i64 0) rfl) ?_
      refine (RL_nil (thenQ_n (hK158 _ _ ?_)))
      refine WP_block ?_
      unfold F_frame_GetSecond_L1 at hF
      obtain ⟨B273, n274, eB275, hF⟩ := loopO_some hF
      refine WP_loopS [8, 9, 10, 18, 19, 20, 21, 22, 23, 24, 25, 26, 27, 28, 29, 30, 31, 32, 33, 34] (fun (g : Nat × Int × (Arr 8 (Arr 64 Int))) => [(18, .int .i64 g.2.1)]) (fun g wl => Hd O w wl S [.fz (.sl (Rp.int .u8) v1 p0), .blk b4 ((Fl.arr 8 (Fl.arr 64 (Fl.int .u16))).f (Arr.rep 8 (Arr.rep 64 0 : Arr 64 Int) : Arr 8 (Arr 64 Int))) 56, .blk b8 ((Fl.arr 8 (Fl.arr 64 (Fl.int .u16))).f g.2.2) 56] ∧ loopN B273 g.1 (g.2.1, g.2.2) = some g155) (fun g => g.1) (n274, 0, (Arr.rep 8 (Arr.rep 64 0 : Arr 64 Int) : Arr 8 (Arr 64 Int))) (Sl_cons rfl Sl_nil) ⟨H.pick [0, 1, 2] (by decide), hF⟩ ?_
      clear H hF
      rintro ⟨n274, g271, g272⟩ ρ w277 ⟨H, hF⟩
      obtain ⟨n278, rfl, hF⟩ := loopN_pos hF
      have hF := loop_body eB275 hF
      refine WP_seq_k fun K279 hK279 => ?_
      refine WP_region ?_
      obtain ⟨x280, e281, hF⟩ := letO_some hF
      refine RL_do rfl rfl (Do_as (Do_lss (a := g271) (b := 8) rfl rfl) (congrArg Value.bool e281)) ?_
      refine (RL_nil (thenQ_n (hK279 _ _ ?_)))
      refine WP_seq_k fun K283 hK283 => ?_
      refine WP_ifb (b := x280) rfl (fun c284 => ?_) (fun c284 => ?_)
      · have hF := iteB_t c284 hF
        refine (WP_skip (thenQ_n (hK283 _ _ ?_)))
        refine WP_seq_k fun K308 hK308 => ?_
        refine WP_block ?_
        refine WP_seq_k fun K309 hK309 => ?_
        refine WP_region ?_
        refine RL_do rfl rfl (Do_move (v := .int .i64 g271) rfl) ?_
        refine RL_do rfl rfl (Do_assign (v := .int .i64 g271) rfl) ?_
        refine (RL_nil (thenQ_n (hK309 _ _ ?_)))
        refine WP_seq_k fun K310 hK310 => ?_
        refine WP_region ?_
        refine RL_do rfl rfl (Do_move (v := v1) rfl) ?_
        refine RL_do rfl rfl (Do_move (v := .int .i64 p1) rfl) ?_
        refine RL_do rfl rfl (Do_move (v := .int .i64 g271) rfl) ?_
        obtain ⟨x311, e312, hF⟩ := letO_some hF
        refine RL_do rfl rfl (Do_mul (a := g271) (b := 96) rfl rfl e312) ?_
        obtain ⟨x313, e314, hF⟩ := letO_some hF
        refine RL_do rfl rfl (Do_add (a := p1) (b := x311) rfl rfl e314) ?_
        obtain ⟨⟨x315, x316⟩, e317, hF⟩ := bindO_some hF
        refine RL_call rfl rfl (DoC_func en77 rfl) (F_frame_inPlace_w p0 x313 v1 _ e317 _ _ _ (H.enter [] [0] (by decide) rfl)) ?_
        rintro _ w320 ⟨v318, rfl, G321⟩
        have H := H.back1 [0] rfl G321
        refine ⟨_, rfl, ?_⟩
        refine RL_do rfl rfl (Do_move (v := .tuple #[.pointer v318, .int .i64 x316]) rfl) ?_
        refine RL_do rfl rfl (Do_extract (v := .pointer v318) rfl rfl) ?_
        refine RL_do rfl rfl (Do_extract (v := .int .i64 x316) rfl rfl) ?_
        refine RL_do rfl rfl (Do_assign (v := .pointer v318) rfl) ?_
        refine RL_do rfl rfl (Do_assign (v := .int .i64 x316) rfl) ?_
        refine (RL_nil (thenQ_n (hK310 _ _ ?_)))
        refine WP_region ?_
        refine RL_do rfl rfl (Do_move (v := .int .i64 g271) rfl) ?_
        refine RL_do rfl rfl (Do_move (v := .pointer v318) rfl) ?_
        have H322 := H
        obtain ⟨x323, e324, hF⟩ := bindO_some hF
        refine RL_call rfl rfl (DoC_func en94 rfl) (F_frame_load_w x315 v318 _ e324 _ _ _ (H.enter [] [3] (by decide) rfl)) ?_
        rintro _ w325 ⟨rfl, G326⟩
        have H := H322.step (G326.only : Only [] _ _)
        refine ⟨_, rfl, ?_⟩
        obtain ⟨x327, e328, hF⟩ := bindO_some hF
        refine RL_do rfl rfl (Do_idxA (X := g272) u56 sz25 rfl rfl e328) ?_
        obtain ⟨x329, e330, hF⟩ := letO_some hF
        refine RL_exU rfl (Lx_storeA (e := (Fl.arr 64 (Fl.int .u16))) (X := g272) (a := x323) (j := g271) H 2 rfl sz25 rfl (v := .agg ((Fl.arr 64 (Fl.int .u16)).f x323).toArray) rfl rfl (Arr.at_lt e328).1 (Arr.at_lt e328).2 e330) ?_
        rintro w331 H
        refine (RL_nil (blockQ_n (thenQ_n (hK308 _ _ ?_))))
        refine WP_region ?_
        obtain ⟨x332, e333, hF⟩ := letO_some hF
        refine RL_do rfl rfl (Do_add (a := g271) (b := 1) rfl rfl e333) ?_
        refine RL_do rfl rfl (Do_move (v := .int .i64 x332) rfl) ?_
        refine (RL_nil (thenQ_n (And.intro ?_ ?_)))
        · repeat' (first | with_reducible exact Fr_refl | refine Fr_upd rfl ?_ | refine Fr_over rfl rfl ?_)
        · exact ⟨(n278, x332, x329), (Sl_cons rfl Sl_nil), ⟨H.pick [0, 1, 2] (by decide), hF⟩, Nat.lt_succ_self _⟩
      · have hF := iteB_f c284 hF
        have hR := Option.some.inj hF
        subst hR
        refine (WP_exit (thenQ_x (thenQ_x (blockQ_eq (thenQ_n (And.intro ?_ ?_))))))
        · repeat' (first | with_reducible exact Fr_refl | refine Fr_upd rfl ?_ | refine Fr_over rfl rfl ?_)
        · exact ⟨(), Sl_nil, H.pick [1, 2] (by decide)⟩
    · rintro _ ρ w156 H
      have hF := hK157
      refine WP_seq_k fun K334 hK334 => ?_
      refine WP_region ?_
      refine RL_do rfl rfl (Do_loadF (e := (Fl.arr 8 (Fl.arr 64 (Fl.int .u16)))) (a := g155) agg56 rfl sz56 (Blk.cells (H.item (i := 1) rfl))) ?_
      refine RL_exU rfl (Lx_storeW (e := (Fl.arr 8 (Fl.arr 64 (Fl.int .u16)))) (a := (Arr.rep 8 (Arr.rep 64 0 : Arr 64 Int) : Arr 8 (Arr 64 Int))) (a' := g155) H 0 rfl sz56 rfl rfl) ?_
      rintro w335 H
      refine RL_do rfl rfl (Do_assign (v := .int .i64 0) rfl) ?_
      refine (RL_nil (thenQ_n (hK334 _ _ ?_)))
      have hR := Option.some.inj hF
      subst hR
      refine (WP_ret (postc1 (v1 := .int .i64 0) rfl rfl (run_loadVar_agg agg56 sz56 (Fl.len _ _) (Blk.cells (H.item (i := 0) rfl))) rfl ?_))
      exact ⟨rfl, H.pick [] (by decide)⟩
end Go.Proofs.YtafgmocdnjdmoaaDoor.L
namespace Go.Proofs.YtafgmocdnjdmoaaDoor.L
open Go.RowKit Go.OB Go.Lf
/- orangebox/orangeboxref1.GetSecond -/
set_option maxHeartbeats 4000000 in
theorem F_ref1_GetSecond_w (p0 : List Int) (p1 : Int) (v1 : Value) (r : (Arr 8 (Arr 64 Int)) × Int) (hF : F_ref1_GetSecond p0 p1 = some r) (O S : List Nat) (w : World) (H : Hd O w w S [.fz (.sl (Rp.int .u8) v1 p0)]) :
    Calls Tryd.prog 72 ([v1, .int .i64 p1] : List Value).toArray w fun e w' => e = .returned (.tuple #[.agg ((Fl.arr 8 (Fl.arr 64 (Fl.int .u16))).f r.1).toArray, .int .i64 r.2]) ∧ Hd O w w' S [] := by
  unfold F_ref1_GetSecond at hF
  refine calls_of_WP 30 Tryd.func72 rfl rfl rfl ?_
  refine WP_seq_k fun K3 hK3 => ?_
  refine WP_region ?_
  refine RL_ex rfl rfl (Lx_alloc zero56 H) ?_
  rintro _ w6 ⟨b4, rfl, H⟩
  refine RL_do rfl rfl (Do_assign (v := .int .i64 0) rfl) ?_
  refine (RL_nil (thenQ_n (hK3 _ _ ?_)))
  refine WP_seq_k fun K7 hK7 => ?_
  refine WP_region ?_
  refine RL_ex rfl rfl (Lx_alloc zero56 H) ?_
  rintro _ w10 ⟨b8, rfl, H⟩
  refine (RL_nil (thenQ_n (hK7 _ _ ?_)))
  refine WP_seq_k fun K23 hK23 => ?_
  refine WP_seq_k fun K24 hK24 => ?_
  refine WP_region ?_
  refine RL_do rfl rfl (Do_move (v := v1) rfl) ?_
  refine RL_do rfl rfl (Do_move (v := .int .i64 p1) rfl) ?_
  have H25 := H
  obtain ⟨x26, e27, hF⟩ := bindO_some hF
  refine RL_call rfl rfl (DoC_func en73 rfl) (F_ref1_Place_w p0 p1 768 v1 _ e27 _ _ _ (H.enter [] [0] (by decide) rfl)) ?_
  rintro _ w28 ⟨rfl, G29⟩
  have H := H25.step (G29.only : Only [] _ _)
  refine ⟨_, rfl, ?_⟩
  refine RL_do rfl rfl (Do_assign (v := .int .i64 x26) rfl) ?_
  refine (RL_nil (thenQ_n (hK24 _ _ ?_)))
  refine WP_seq_k fun K30 hK30 => ?_
  refine WP_region ?_
  refine RL_do rfl rfl (Do_move (v := .int .i64 x26) rfl) ?_
  obtain ⟨x31, e32, hF⟩ := letO_some hF
  refine RL_do rfl rfl (Do_as (Do_neq (a := x26) (b := 0) rfl rfl) (congrArg Value.bool e32)) ?_
  refine (RL_nil (thenQ_n (hK30 _ _ ?_)))
  refine WP_ifb (b := x31) rfl (fun c33 => ?_) (fun c33 => ?_)
  · have hF := iteB_t c33 hF
    refine WP_seq_k fun K34 hK34 => ?_
    refine WP_region ?_
    refine RL_do rfl rfl (Do_loadF (e := (Fl.arr 8 (Fl.arr 64 (Fl.int .u16)))) (a := (Arr.rep 8 (Arr.rep 64 0 : Arr 64 Int) : Arr 8 (Arr 64 Int))) agg56 rfl sz56 (Blk.cells (H.item (i := 2) rfl))) ?_
    refine RL_do rfl rfl (Do_move (v := .int .i64 x26) rfl) ?_
    refine RL_exU rfl (Lx_storeW (e := (Fl.arr 8 (Fl.arr 64 (Fl.int .u16)))) (a := (Arr.rep 8 (Arr.rep 64 0 : Arr 64 Int) : Arr 8 (Arr 64 Int))) (a' := (Arr.rep 8 (Arr.rep 64 0 : Arr 64 Int) : Arr 8 (Arr 64 Int))) H 1 rfl sz56 rfl rfl) ?_
    rintro w35 H
    refine RL_do rfl rfl (Do_assign (v := .int .i64 x26) rfl) ?_
    refine (RL_nil (thenQ_n (hK34 _ _ ?_)))
    have hR := Option.some.inj hF
    subst hR
    refine (WP_ret (thenQ_r (postc1 (v1 := .int .i64 x26) rfl rfl (run_loadVar_agg agg56 sz56 (Fl.len _ _) (Blk.cells (H.item (i := 1) rfl))) rfl ?_)))
    exact ⟨rfl, H.pick [] (by decide)⟩
  · have hF := iteB_f c33 hF
    refine (WP_skip (thenQ_n (hK23 _ _ ?_)))
    obtain ⟨g143, hF, hK145⟩ := bindO_some hF
    refine WP_seqS [8, 16, 17, 18, 19, 20, 21, 22, 23, 24, 25, 26, 27, 28] (fun (g : Unit) => []) (fun g wl => Hd O w wl S [.blk b4 ((Fl.arr 8 (Fl.arr 64 (Fl.int .u16))).f (Arr.rep 8 (Arr.rep 64 0 : Arr 64 Int) : Arr 8 (Arr 64 Int))) 56, .blk b8 ((Fl.arr 8 (Fl.arr 64 (Fl.int .u16))).f g143) 56]) ?_ ?_
    · skip
      refine WP_seq_k fun K146 hK146 => ?_
      refine WP_region ?_
      refine RL_do rfl rfl (Do_move (v := .int .i64 0) rfl) ?_
      refine (RL_nil (thenQ_n (hK146 _ _ ?_)))
      refine WP_block ?_
      unfold F_ref1_GetSecond_L1 at hF
      obtain ⟨B249, n250, eB251, hF⟩ := loopO_some hF
      refine WP_loopS [8, 16, 17, 18, 19, 20, 21, 22, 23, 24, 25, 26, 27, 28] (fun (g : Nat × Int × (Arr 8 (Arr 64 Int))) => [(16, .int .i64 g.2.1)]) (fun g wl => Hd O w wl S [.fz (.sl (Rp.int .u8) v1 p0), .blk b4 ((Fl.arr 8 (Fl.arr 64 (Fl.int .u16))).f (Arr.rep 8 (Arr.rep 64 0 : Arr 64 Int) : Arr 8 (Arr 64 Int))) 56, .blk b8 ((Fl.arr 8 (Fl.arr 64 (Fl.int .u16))).f g.2.2) 56] ∧ loopN B249 g.1 (g.2.1, g.2.2) = some g143) (fun g => g.1) (n250, 0, (Arr.rep 8 (Arr.rep 64 0 : Arr 64 Int) : Arr 8 (Arr 64 Int))) (Sl_cons rfl Sl_nil) ⟨H.pick [0, 1, 2] (by decide), hF⟩ ?_
      clear H hF
      rintro ⟨n250, g247, g248⟩ ρ w253 ⟨H, hF⟩
      obtain ⟨n254, rfl, hF⟩ := loopN_pos hF
      have hF := loop_body eB251 hF
      refine WP_seq_k fun K255 hK255 => ?_
      refine WP_region ?_
      obtain ⟨x256, e257, hF⟩ := letO_some hF
      refine RL_do rfl rfl (Do_as (Do_lss (a := g247) (b := 8) rfl rfl) (congrArg Value.bool e257)) ?_
      refine (RL_nil (thenQ_n (hK255 _ _ ?_)))
      refine WP_seq_k fun K259 hK259 => ?_
      refine WP_ifb (b := x256) rfl (fun c260 => ?_) (fun c260 => ?_)
      · have hF := iteB_t c260 hF
        refine (WP_skip (thenQ_n (hK259 _ _ ?_)))
        refine WP_seq_k fun K281 hK281 => ?_
        refine WP_block ?_
        refine WP_seq_k fun K282 hK282 => ?_
        refine WP_region ?_
        refine RL_do rfl rfl (Do_move (v := .int .i64 g247) rfl) ?_
        refine RL_do rfl rfl (Do_assign (v := .int .i64 g247) rfl) ?_
        refine (RL_nil (thenQ_n (hK282 _ _ ?_)))
        refine WP_region ?_
        refine RL_do rfl rfl (Do_move (v := .int .i64 g247) rfl) ?_
        refine RL_do rfl rfl (Do_move (v := v1) rfl) ?_
        refine RL_do rfl rfl (Do_move (v := .int .i64 p1) rfl) ?_
        refine RL_do rfl rfl (Do_move (v := .int .i64 g247) rfl) ?_
        obtain ⟨x283, e284, hF⟩ := letO_some hF
        refine RL_do rfl rfl (Do_mul (a := g247) (b := 96) rfl rfl e284) ?_
        obtain ⟨x285, e286, hF⟩ := letO_some hF
        refine RL_do rfl rfl (Do_add (a := p1) (b := x283) rfl rfl e286) ?_
        obtain ⟨x287, e288, hF⟩ := bindO_some hF
        refine RL_exP rfl rfl (Lx_slice_l u22 sz5 (H.item (i := 0) rfl) rfl rfl e288) ?_
        rintro v289 h290
        have H := H.fz (.sl (Rp.int .u8) v289 x287) h290
        have H292 := H
        obtain ⟨x293, e294, hF⟩ := bindO_some hF
        refine RL_call rfl rfl (DoC_func en81 rfl) (F_ref1_frame_w x287 v289 _ e294 _ _ _ (H.enter [] [3] (by decide) rfl)) ?_
        rintro _ w295 ⟨rfl, G296⟩
        have H := H292.step (G296.only : Only [] _ _)
        refine ⟨_, rfl, ?_⟩
        obtain ⟨x297, e298, hF⟩ := bindO_some hF
        refine RL_do rfl rfl (Do_idxA (X := g248) u56 sz25 rfl rfl e298) ?_
        obtain ⟨x299, e300, hF⟩ := letO_some hF
        refine RL_exU rfl (Lx_storeA (e := (Fl.arr 64 (Fl.int .u16))) (X := g248) (a := x293) (j := g247) H 2 rfl sz25 rfl (v := .agg ((Fl.arr 64 (Fl.int .u16)).f x293).toArray) rfl rfl (Arr.at_lt e298).1 (Arr.at_lt e298).2 e300) ?_
        rintro w301 H
        refine (RL_nil (blockQ_n (thenQ_n (hK281 _ _ ?_))))
        refine WP_region ?_
        obtain ⟨x302, e303, hF⟩ := letO_some hF
        refine RL_do rfl rfl (Do_add (a := g247) (b := 1) rfl rfl e303) ?_
        refine RL_do rfl rfl (Do_move (v := .int .i64 x302) rfl) ?_
        refine (RL_nil (thenQ_n (And.intro ?_ ?_)))
        · repeat' (first | with_reducible exact Fr_refl | refine Fr_upd rfl ?_ | refine Fr_over rfl rfl ?_)
        · exact ⟨(n254, x302, x299), (Sl_cons rfl Sl_nil), ⟨H.pick [0, 1, 2] (by decide), hF⟩, Nat.lt_succ_self _⟩
      · have hF := iteB_f c260 hF
        have hR := Option.some.inj hF
        subst hR
        refine (WP_exit (thenQ_x (thenQ_x (blockQ_eq (thenQ_n (And.intro ?_ ?_))))))
        · repeat' (first | with_reducible exact Fr_refl | refine Fr_upd rfl ?_ | refine Fr_over rfl rfl ?_)
        · exact ⟨(), Sl_nil, H.pick [1, 2] (by decide)⟩
    · rintro _ ρ w144 H
      have hF := hK145
      refine WP_seq_k fun K304 hK304 => ?_
      refine WP_region ?_
      refine RL_do rfl rfl (Do_loadF (e := (Fl.arr 8 (Fl.arr 64 (Fl.int .u16)))) (a := g143) agg56 rfl sz56 (Blk.cells (H.item (i := 1) rfl))) ?_
      refine RL_exU rfl (Lx_storeW (e := (Fl.arr 8 (Fl.arr 64 (Fl.int .u16)))) (a := (Arr.rep 8 (Arr.rep 64 0 : Arr 64 Int) : Arr 8 (Arr 64 Int))) (a' := g143) H 0 rfl sz56 rfl rfl) ?_
      rintro w305 H
      refine RL_do rfl rfl (Do_assign (v := .int .i64 0) rfl) ?_
      refine (RL_nil (thenQ_n (hK304 _ _ ?_)))
      have hR := Option.some.inj hF
      subst hR
      refine (WP_ret (postc1 (v1 := .int .i64 0) rfl rfl (run_loadVar_agg agg56 sz56 (Fl.len _ _) (Blk.cells (H.item (i := 0) rfl))) rfl ?_))
      exact ⟨rfl, H.pick [] (by decide)⟩
end Go.Proofs.YtafgmocdnjdmoaaDoor.L
namespace Go.Proofs.YtafgmocdnjdmoaaDoor.L
open Go.RowKit Go.OB Go.Lf
/- bytes.Equal -/
set_option maxHeartbeats 4000000 in
theorem F_bytes_Equal_w (p0 : List Int) (p1 : List Int) (v1 : Value) (v3 : Value) (r : Bool) (hF : F_bytes_Equal p0 p1 = some r) (O S : List Nat) (w : World) (H : Hd O w w S [.fz (.sl (Rp.int .u8) v1 p0), .fz (.sl (Rp.int .u8) v3 p1)]) :
    Calls Tryd.prog 19 ([v1, v3] : List Value).toArray w fun e w' => e = .returned (.bool r) ∧ Hd O w w' S [] := by
  unfold F_bytes_Equal at hF
  refine calls_of_WP 10 Tryd.func19 rfl rfl rfl ?_
  refine WP_seq_k fun K5 hK5 => ?_
  refine WP_region ?_
  refine RL_do rfl rfl (Do_assign (v := .bool false) rfl) ?_
  refine (RL_nil (thenQ_n (hK5 _ _ ?_)))
  refine WP_seq_k fun K6 hK6 => ?_
  refine WP_region ?_
  refine RL_do rfl rfl (Do_move (v := v1) rfl) ?_
  obtain ⟨x7, e8, hF⟩ := letO_some hF
  refine RL_do rfl rfl (Do_as (Do_bytestr (xl := p0) u22 u5 u9 rfl (Sr.of_rd (H.item (i := 0) rfl))) (congrArg (fun s => Value.string (bs s)) e8)) ?_
  refine RL_do rfl rfl (Do_move (v := v3) rfl) ?_
  obtain ⟨x9, e10, hF⟩ := letO_some hF
  refine RL_do rfl rfl (Do_as (Do_bytestr (xl := p1) u22 u5 u9 rfl (Sr.of_rd (H.item (i := 1) rfl))) (congrArg (fun s => Value.string (bs s)) e10)) ?_
  obtain ⟨x11, e12, hF⟩ := letO_some hF
  refine RL_do rfl rfl (Do_as (Do_eqls (s1 := x7) (s2 := x9) rfl rfl) (congrArg Value.bool e12)) ?_
  refine RL_do rfl rfl (Do_assign (v := .bool x11) rfl) ?_
  refine (RL_nil (thenQ_n (hK6 _ _ ?_)))
  have hR := Option.some.inj hF
  subst hR
  refine (WP_ret (post1 (v1 := .bool x11) rfl rfl ?_))
  exact ⟨rfl, H.pick [] (by decide)⟩
end Go.Proofs.YtafgmocdnjdmoaaDoor.L
