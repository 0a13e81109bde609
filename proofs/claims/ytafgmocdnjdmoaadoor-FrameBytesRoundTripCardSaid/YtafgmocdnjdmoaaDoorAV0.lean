/- Walks: what each function computes, for every argument; no condition but those that stand in the statements. -/
import Derived.Test.YtafgmocdnjdmoaaDoorRows
import Derived.Test.YtafgmocdnjdmoaaDoorAP
import Derived.Test.YtafgmocdnjdmoaaDoorXAw
namespace Go.Proofs.YtafgmocdnjdmoaaDoor.L
open Go.RowKit Go.OB Go.Lf
theorem u3 : Tryd.prog.underlying 3 = some (.int .i64) := Tryd.underlying3
theorem u4 : Tryd.prog.underlying 4 = some .bool := Tryd.underlying4
theorem u5 : Tryd.prog.underlying 5 = some (.int .u8) := Tryd.underlying5
theorem u9 : Tryd.prog.underlying 9 = some .string := Tryd.underlying9
theorem u22 : Tryd.prog.underlying 22 = some (.slice 5) := Tryd.underlying22
theorem u23 : Tryd.prog.underlying 23 = some (.int .u16) := Tryd.underlying23
theorem u25 : Tryd.prog.underlying 25 = some (.array 64 23) := Tryd.underlying25
theorem u46 : Tryd.prog.underlying 46 = some (.slice 3) := Tryd.underlying46
theorem u50 : Tryd.prog.underlying 50 = some (.slice 80) := Tryd.underlying50
theorem u56 : Tryd.prog.underlying 56 = some (.array 8 25) := Tryd.underlying56
theorem u70 : Tryd.prog.underlying 70 = some (.slice 4) := Tryd.underlying70
theorem u82 : Tryd.prog.underlying 82 = some (.array 8 5) := Tryd.underlying82
theorem u90 : Tryd.prog.underlying 90 = some (.slice 25) := Tryd.underlying90
theorem u111 : Tryd.prog.underlying 111 = some (.array 4 23) := Tryd.underlying111
theorem u116 : Tryd.prog.underlying 116 = some (.array 96 5) := Tryd.underlying116
theorem u120 : Tryd.prog.underlying 120 = some (.slice 23) := Tryd.underlying120
theorem u123 : Tryd.prog.underlying 123 = some (.int .u64) := Tryd.underlying123
theorem u124 : Tryd.prog.underlying 124 = some (.array 2 123) := Tryd.underlying124
theorem u125 : Tryd.prog.underlying 125 = some (.slice 123) := Tryd.underlying125
theorem u128 : Tryd.prog.underlying 128 = some (.array 4 3) := Tryd.underlying128
theorem sz3 : Sz Tryd.prog 3 1 := by unfold Sz; kernel_rfl
theorem sz4 : Sz Tryd.prog 4 1 := by unfold Sz; kernel_rfl
theorem sz5 : Sz Tryd.prog 5 1 := by unfold Sz; kernel_rfl
theorem sz23 : Sz Tryd.prog 23 1 := by unfold Sz; kernel_rfl
theorem sz25 : Sz Tryd.prog 25 64 := by unfold Sz; kernel_rfl
theorem sz56 : Sz Tryd.prog 56 512 := by unfold Sz; kernel_rfl
theorem sz80 : Sz Tryd.prog 80 2 := by unfold Sz; kernel_rfl
theorem sz82 : Sz Tryd.prog 82 8 := by unfold Sz; kernel_rfl
theorem sz116 : Sz Tryd.prog 116 96 := by unfold Sz; kernel_rfl
theorem sz123 : Sz Tryd.prog 123 1 := by unfold Sz; kernel_rfl
theorem one3 : OneC Tryd.prog 3 := by unfold OneC; kernel_rfl
theorem one4 : OneC Tryd.prog 4 := by unfold OneC; kernel_rfl
theorem one5 : OneC Tryd.prog 5 := by unfold OneC; kernel_rfl
theorem one23 : OneC Tryd.prog 23 := by unfold OneC; kernel_rfl
theorem one123 : OneC Tryd.prog 123 := by unfold OneC; kernel_rfl
theorem agg25 : Agg Tryd.prog 25 := by unfold Agg; kernel_rfl
theorem agg56 : Agg Tryd.prog 56 := by unfold Agg; kernel_rfl
theorem agg80 : Agg Tryd.prog 80 := by unfold Agg; kernel_rfl
theorem agg82 : Agg Tryd.prog 82 := by unfold Agg; kernel_rfl
theorem agg116 : Agg Tryd.prog 116 := by unfold Agg; kernel_rfl
theorem zero25 : Go.OB.Zero Tryd.prog 25 ((Fl.arr 64 (Fl.int .u16)).f (Arr.rep 64 0 : Arr 64 Int)) := by unfold Go.OB.Zero; kernel_rfl
theorem zero56 : Go.OB.Zero Tryd.prog 56 ((Fl.arr 8 (Fl.arr 64 (Fl.int .u16))).f (Arr.rep 8 (Arr.rep 64 0 : Arr 64 Int) : Arr 8 (Arr 64 Int))) := by unfold Go.OB.Zero; kernel_rfl
theorem zero82 : Go.OB.Zero Tryd.prog 82 ((Fl.arr 8 (Fl.int .u8)).f (Arr.rep 8 0 : Arr 8 Int)) := by unfold Go.OB.Zero; kernel_rfl
theorem zero116 : Go.OB.Zero Tryd.prog 116 ((Fl.arr 96 (Fl.int .u8)).f (Arr.rep 96 0 : Arr 96 Int)) := by unfold Go.OB.Zero; kernel_rfl
theorem el3 : El Tryd.prog 3 1 8 ([.int .i64 0]) := ⟨by kernel_rfl, by kernel_rfl, by kernel_rfl, by decide, by decide⟩
theorem el4 : El Tryd.prog 4 1 1 ([.bool false]) := ⟨by kernel_rfl, by kernel_rfl, by kernel_rfl, by decide, by decide⟩
theorem el5 : El Tryd.prog 5 1 1 ([.int .u8 0]) := ⟨by kernel_rfl, by kernel_rfl, by kernel_rfl, by decide, by decide⟩
theorem el25 : El Tryd.prog 25 64 128 ((Fl.arr 64 (Fl.int .u16)).f (Arr.rep 64 0 : Arr 64 Int)) := ⟨by kernel_rfl, by kernel_rfl, by kernel_rfl, by decide, by decide⟩
theorem el80 : El Tryd.prog 80 2 16 ([.int .i64 0, .int .i64 0]) := ⟨by kernel_rfl, by kernel_rfl, by kernel_rfl, by decide, by decide⟩
theorem el123 : El Tryd.prog 123 1 8 ([.int .u64 0]) := ⟨by kernel_rfl, by kernel_rfl, by kernel_rfl, by decide, by decide⟩
theorem bz25 : Tryd.prog.built 25 [] = some ((Fl.arr 64 (Fl.int .u16)).f (Arr.rep 64 0 : Arr 64 Int)).toArray := by kernel_rfl
theorem bt80_0_1 (a0 : Int) (a1 : Int) : Tryd.prog.built 80 [(0, .int .i64 a0), (1, .int .i64 a1)] = some [.int .i64 a0, .int .i64 a1].toArray := by kernel_rfl
theorem bt124_0_1 (a0 : Int) (a1 : Int) : Tryd.prog.built 124 [(0, .int .u64 a0), (1, .int .u64 a1)] = some [.int .u64 a0, .int .u64 a1].toArray := by kernel_rfl
theorem bt128_0_1_2_3 (a0 : Int) (a1 : Int) (a2 : Int) (a3 : Int) : Tryd.prog.built 128 [(0, .int .i64 a0), (1, .int .i64 a1), (2, .int .i64 a2), (3, .int .i64 a3)] = some [.int .i64 a0, .int .i64 a1, .int .i64 a2, .int .i64 a3].toArray := by kernel_rfl
theorem eqf23 : EqF Tryd.prog 23 (Fl.int .u16) 1 := EqF.int Tryd.underlying23
theorem eqf3 : EqF Tryd.prog 3 (Fl.int .i64) 1 := EqF.int Tryd.underlying3
theorem eqf5 : EqF Tryd.prog 5 (Fl.int .u8) 1 := EqF.int Tryd.underlying5
theorem eqf25 : EqF Tryd.prog 25 (Fl.arr 64 (Fl.int .u16)) 2 := EqF.arr Tryd.underlying25 (by unfold Sz; kernel_rfl) (by unfold Sz; kernel_rfl) eqf23
theorem eqf80 : EqF Tryd.prog 80 flFlaw 2 := EqF.struct (k := 1) (fun x y h => by cases x; cases y; simp_all) Tryd.underlying80 (by kernel_rfl) (by unfold Sz; kernel_rfl) ((EqFs.cons rfl (by decide) (eqf3.up (by decide)) (EqFs.one rfl (by decide) (eqf3.up (by decide)))))
theorem eqf82 : EqF Tryd.prog 82 (Fl.arr 8 (Fl.int .u8)) 2 := EqF.arr Tryd.underlying82 (by unfold Sz; kernel_rfl) (by unfold Sz; kernel_rfl) eqf5
theorem eqf116 : EqF Tryd.prog 116 (Fl.arr 96 (Fl.int .u8)) 2 := EqF.arr Tryd.underlying116 (by unfold Sz; kernel_rfl) (by unfold Sz; kernel_rfl) eqf5
theorem eqf56 : EqF Tryd.prog 56 (Fl.arr 8 (Fl.arr 64 (Fl.int .u16))) 3 := EqF.arr Tryd.underlying56 (by unfold Sz; kernel_rfl) (by unfold Sz; kernel_rfl) eqf25
theorem en19 : Enters Tryd.prog 19 := ⟨_, Tryd.func19, rfl, by kernel_rfl⟩
theorem en21 : Enters Tryd.prog 21 := ⟨_, Tryd.func21, rfl, by kernel_rfl⟩
theorem en22 : Enters Tryd.prog 22 := ⟨_, Tryd.func22, rfl, by kernel_rfl⟩
theorem en32 : Enters Tryd.prog 32 := ⟨_, Tryd.func32, rfl, by kernel_rfl⟩
theorem en33 : Enters Tryd.prog 33 := ⟨_, Tryd.func33, rfl, by kernel_rfl⟩
theorem en34 : Enters Tryd.prog 34 := ⟨_, Tryd.func34, rfl, by kernel_rfl⟩
theorem en37 : Enters Tryd.prog 37 := ⟨_, Tryd.func37, rfl, by kernel_rfl⟩
theorem en44 : Enters Tryd.prog 44 := ⟨_, Tryd.func44, rfl, by kernel_rfl⟩
theorem en45 : Enters Tryd.prog 45 := ⟨_, Tryd.func45, rfl, by kernel_rfl⟩
theorem en46 : Enters Tryd.prog 46 := ⟨_, Tryd.func46, rfl, by kernel_rfl⟩
theorem en47 : Enters Tryd.prog 47 := ⟨_, Tryd.func47, rfl, by kernel_rfl⟩
theorem en48 : Enters Tryd.prog 48 := ⟨_, Tryd.func48, rfl, by kernel_rfl⟩
theorem en49 : Enters Tryd.prog 49 := ⟨_, Tryd.func49, rfl, by kernel_rfl⟩
theorem en50 : Enters Tryd.prog 50 := ⟨_, Tryd.func50, rfl, by kernel_rfl⟩
theorem en51 : Enters Tryd.prog 51 := ⟨_, Tryd.func51, rfl, by kernel_rfl⟩
theorem en52 : Enters Tryd.prog 52 := ⟨_, Tryd.func52, rfl, by kernel_rfl⟩
theorem en53 : Enters Tryd.prog 53 := ⟨_, Tryd.func53, rfl, by kernel_rfl⟩
theorem en54 : Enters Tryd.prog 54 := ⟨_, Tryd.func54, rfl, by kernel_rfl⟩
theorem en55 : Enters Tryd.prog 55 := ⟨_, Tryd.func55, rfl, by kernel_rfl⟩
theorem en56 : Enters Tryd.prog 56 := ⟨_, Tryd.func56, rfl, by kernel_rfl⟩
theorem en57 : Enters Tryd.prog 57 := ⟨_, Tryd.func57, rfl, by kernel_rfl⟩
theorem en58 : Enters Tryd.prog 58 := ⟨_, Tryd.func58, rfl, by kernel_rfl⟩
theorem en59 : Enters Tryd.prog 59 := ⟨_, Tryd.func59, rfl, by kernel_rfl⟩
theorem en60 : Enters Tryd.prog 60 := ⟨_, Tryd.func60, rfl, by kernel_rfl⟩
theorem en61 : Enters Tryd.prog 61 := ⟨_, Tryd.func61, rfl, by kernel_rfl⟩
theorem en62 : Enters Tryd.prog 62 := ⟨_, Tryd.func62, rfl, by kernel_rfl⟩
theorem en63 : Enters Tryd.prog 63 := ⟨_, Tryd.func63, rfl, by kernel_rfl⟩
theorem en64 : Enters Tryd.prog 64 := ⟨_, Tryd.func64, rfl, by kernel_rfl⟩
theorem en65 : Enters Tryd.prog 65 := ⟨_, Tryd.func65, rfl, by kernel_rfl⟩
theorem en66 : Enters Tryd.prog 66 := ⟨_, Tryd.func66, rfl, by kernel_rfl⟩
theorem en67 : Enters Tryd.prog 67 := ⟨_, Tryd.func67, rfl, by kernel_rfl⟩
theorem en68 : Enters Tryd.prog 68 := ⟨_, Tryd.func68, rfl, by kernel_rfl⟩
theorem en69 : Enters Tryd.prog 69 := ⟨_, Tryd.func69, rfl, by kernel_rfl⟩
theorem en70 : Enters Tryd.prog 70 := ⟨_, Tryd.func70, rfl, by kernel_rfl⟩
theorem en71 : Enters Tryd.prog 71 := ⟨_, Tryd.func71, rfl, by kernel_rfl⟩
theorem en72 : Enters Tryd.prog 72 := ⟨_, Tryd.func72, rfl, by kernel_rfl⟩
theorem en73 : Enters Tryd.prog 73 := ⟨_, Tryd.func73, rfl, by kernel_rfl⟩
theorem en74 : Enters Tryd.prog 74 := ⟨_, Tryd.func74, rfl, by kernel_rfl⟩
theorem en77 : Enters Tryd.prog 77 := ⟨_, Tryd.func77, rfl, by kernel_rfl⟩
theorem en78 : Enters Tryd.prog 78 := ⟨_, Tryd.func78, rfl, by kernel_rfl⟩
theorem en80 : Enters Tryd.prog 80 := ⟨_, Tryd.func80, rfl, by kernel_rfl⟩
theorem en81 : Enters Tryd.prog 81 := ⟨_, Tryd.func81, rfl, by kernel_rfl⟩
theorem en83 : Enters Tryd.prog 83 := ⟨_, Tryd.func83, rfl, by kernel_rfl⟩
theorem en84 : Enters Tryd.prog 84 := ⟨_, Tryd.func84, rfl, by kernel_rfl⟩
theorem en85 : Enters Tryd.prog 85 := ⟨_, Tryd.func85, rfl, by kernel_rfl⟩
theorem en86 : Enters Tryd.prog 86 := ⟨_, Tryd.func86, rfl, by kernel_rfl⟩
theorem en87 : Enters Tryd.prog 87 := ⟨_, Tryd.func87, rfl, by kernel_rfl⟩
theorem en88 : Enters Tryd.prog 88 := ⟨_, Tryd.func88, rfl, by kernel_rfl⟩
theorem en89 : Enters Tryd.prog 89 := ⟨_, Tryd.func89, rfl, by kernel_rfl⟩
theorem en90 : Enters Tryd.prog 90 := ⟨_, Tryd.func90, rfl, by kernel_rfl⟩
theorem en91 : Enters Tryd.prog 91 := ⟨_, Tryd.func91, rfl, by kernel_rfl⟩
theorem en92 : Enters Tryd.prog 92 := ⟨_, Tryd.func92, rfl, by kernel_rfl⟩
theorem en93 : Enters Tryd.prog 93 := ⟨_, Tryd.func93, rfl, by kernel_rfl⟩
theorem en94 : Enters Tryd.prog 94 := ⟨_, Tryd.func94, rfl, by kernel_rfl⟩
theorem en95 : Enters Tryd.prog 95 := ⟨_, Tryd.func95, rfl, by kernel_rfl⟩
theorem en96 : Enters Tryd.prog 96 := ⟨_, Tryd.func96, rfl, by kernel_rfl⟩
theorem en97 : Enters Tryd.prog 97 := ⟨_, Tryd.func97, rfl, by kernel_rfl⟩
theorem en98 : Enters Tryd.prog 98 := ⟨_, Tryd.func98, rfl, by kernel_rfl⟩
theorem en99 : Enters Tryd.prog 99 := ⟨_, Tryd.func99, rfl, by kernel_rfl⟩
theorem en100 : Enters Tryd.prog 100 := ⟨_, Tryd.func100, rfl, by kernel_rfl⟩
theorem en101 : Enters Tryd.prog 101 := ⟨_, Tryd.func101, rfl, by kernel_rfl⟩
theorem en102 : Enters Tryd.prog 102 := ⟨_, Tryd.func102, rfl, by kernel_rfl⟩
theorem en103 : Enters Tryd.prog 103 := ⟨_, Tryd.func103, rfl, by kernel_rfl⟩
theorem en104 : Enters Tryd.prog 104 := ⟨_, Tryd.func104, rfl, by kernel_rfl⟩
theorem en105 : Enters Tryd.prog 105 := ⟨_, Tryd.func105, rfl, by kernel_rfl⟩
theorem en106 : Enters Tryd.prog 106 := ⟨_, Tryd.func106, rfl, by kernel_rfl⟩
theorem mixed : Tryd.prog.follows .mixedOrders = true := by kernel_rfl
end Go.Proofs.YtafgmocdnjdmoaaDoor.L
namespace Go.Proofs.YtafgmocdnjdmoaaDoor.L
open Go.RowKit Go.OB Go.Lf
/- orangebox/frame.wordIn -/
set_option maxHeartbeats 4000000 in
theorem F_frame_wordIn_w (p0 : Option (Arr 96 Int)) (p1 : Int) (v1 : Option Addr) (r : Int) (hF : F_frame_wordIn p0 p1 = some r) (O S : List Nat) (w : World) (H : Hd O w w S [.fz (.pt (Rp.fl (Fl.arr 96 (Fl.int .u8))) v1 p0)]) :
    Calls Tryd.prog 106 ([.pointer v1, .int .i64 p1] : List Value).toArray w fun e w' => e = .returned (.int .u16 r) ∧ Hd O w w' S [] := by
  unfold F_frame_wordIn at hF
  refine calls_of_WP 45 Tryd.func106 rfl rfl rfl ?_
  refine WP_seq_k fun K3 hK3 => ?_
  refine WP_region ?_
  refine RL_do rfl rfl (Do_assign (v := .int .u16 0) rfl) ?_
  refine (RL_nil (thenQ_n (hK3 _ _ ?_)))
  refine WP_seq_k fun K4 hK4 => ?_
  refine WP_region ?_
  refine RL_do rfl rfl (Do_move (v := .int .i64 p1) rfl) ?_
  obtain ⟨x5, e6, hF⟩ := bindO_some hF
  refine RL_do rfl rfl (Do_quo' (j := p1) (q := 2) rfl rfl e6) ?_
  obtain ⟨x7, e8, hF⟩ := letO_some hF
  refine RL_do rfl rfl (Do_mul (a := x5) (b := 3) rfl rfl e8) ?_
  refine RL_do rfl rfl (Do_assign (v := .int .i64 x7) rfl) ?_
  refine (RL_nil (thenQ_n (hK4 _ _ ?_)))
  refine WP_seq_k fun K57 hK57 => ?_
  refine WP_seq_k fun K58 hK58 => ?_
  refine WP_region ?_
  refine RL_do rfl rfl (Do_move (v := .int .i64 p1) rfl) ?_
  obtain ⟨x59, e60, hF⟩ := bindO_some hF
  refine RL_do rfl rfl (Do_rem' (j := p1) (q := 2) rfl rfl e60) ?_
  obtain ⟨x61, e62, hF⟩ := letO_some hF
  refine RL_do rfl rfl (Do_as (Do_eql (a := x59) (b := 0) rfl rfl) (congrArg Value.bool e62)) ?_
  refine (RL_nil (thenQ_n (hK58 _ _ ?_)))
  refine WP_ifb (b := x61) rfl (fun c63 => ?_) (fun c63 => ?_)
  · have hF := iteB_t c63 hF
    refine WP_seq_k fun K64 hK64 => ?_
    have H65 := H
    have H := H.rebase
    have H66 := H
    refine WP_mix0 H [0, 1, 2, 3, 4, 5, 6, 7, 8, 9, 10, 11, 12, 13, 14, 15, 16] [.pure, .pure, .pure, .pure, .read, .pure, .pure, .pure, .pure, .pure, .pure, .pure, .read, .pure, .pure, .pure, .pure] mixed (by kernel_rfl) (by kernel_rfl) (by kernel_rfl) rfl ?_
    refine Mx.XL_pure rfl rfl rfl (fun w' hw' => Do_move (v := .pointer v1) rfl) ?_
    refine Mx.XL_pure rfl rfl rfl (fun w' hw' => Do_move (v := .int .i64 x7) rfl) ?_
    obtain ⟨x67, e68, hF⟩ := bindO_some hF
    obtain ⟨b69, o70, cs71, q72, h73, h74, h75, h76⟩ := ptf_some ((H.item (i := 0) rfl) : PtF _ _ _ _ _) e68
    obtain rfl : cs71 = (Fl.arr 96 (Fl.int .u8)).f x67 := h75
    have H := H.fz (.at b69 o70 _) ⟨h73, h74, h76⟩
    refine Mx.XL_pure rfl rfl rfl (fun w' hw' => Do_nilCheck (ad := ⟨b69, o70, none⟩) (congrArg Value.pointer q72)) ?_
    obtain ⟨x78, e79, hF⟩ := bindO_some hF
    refine Mx.XL_pure rfl rfl rfl (fun w' hw' => Do_idxA (X := x67) u116 sz5 rfl rfl e79) ?_
    refine Mx.XL_read oS rfl rfl rfl (fun w' hw' => Do_load1 (v := .int .u8 x78) one5 rfl (Cells.ix (e := (Fl.int .u8)) (x := x67) ((H.sees hw').item (i := 1) rfl).2.2 e79)) ?_
    obtain ⟨x80, e81, hF⟩ := letO_some hF
    refine Mx.XL_pure rfl rfl rfl (fun w' hw' => Do_conv u5 u23 rfl e81) ?_
    obtain ⟨x82, e83, hF⟩ := bindO_some hF
    refine Mx.XL_pure rfl rfl rfl (fun w' hw' => Do_shl' (j := x80) (q := 4) rfl rfl e83) ?_
    refine Mx.XL_pure rfl rfl rfl (fun w' hw' => Do_move (v := .pointer v1) rfl) ?_
    refine Mx.XL_pure rfl rfl rfl (fun w' hw' => Do_move (v := .int .i64 x7) rfl) ?_
    obtain ⟨x84, e85, hF⟩ := letO_some hF
    refine Mx.XL_pure rfl rfl rfl (fun w' hw' => Do_add (a := x7) (b := 1) rfl rfl e85) ?_
    obtain ⟨x86, e87, hF⟩ := bindO_some hF
    obtain ⟨b88, o89, cs90, q91, h92, h93, h94, h95⟩ := ptf_some ((H.item (i := 0) rfl) : PtF _ _ _ _ _) e87
    obtain rfl : cs90 = (Fl.arr 96 (Fl.int .u8)).f x86 := h94
    have H := H.fz (.at b88 o89 _) ⟨h92, h93, h95⟩
    refine Mx.XL_pure rfl rfl rfl (fun w' hw' => Do_nilCheck (ad := ⟨b88, o89, none⟩) (congrArg Value.pointer q91)) ?_
    obtain ⟨x97, e98, hF⟩ := bindO_some hF
    refine Mx.XL_pure rfl rfl rfl (fun w' hw' => Do_idxA (X := x86) u116 sz5 rfl rfl e98) ?_
    refine Mx.XL_read oS rfl rfl rfl (fun w' hw' => Do_load1 (v := .int .u8 x97) one5 rfl (Cells.ix (e := (Fl.int .u8)) (x := x86) ((H.sees hw').item (i := 2) rfl).2.2 e98)) ?_
    obtain ⟨x99, e100, hF⟩ := letO_some hF
    refine Mx.XL_pure rfl rfl rfl (fun w' hw' => Do_conv u5 u23 rfl e100) ?_
    obtain ⟨x101, e102, hF⟩ := bindO_some hF
    refine Mx.XL_pure rfl rfl rfl (fun w' hw' => Do_shr' (j := x99) (q := 4) rfl rfl e102) ?_
    obtain ⟨x103, e104, hF⟩ := letO_some hF
    refine Mx.XL_pure rfl rfl rfl (fun w' hw' => Do_or (a := x82) (b := x101) rfl rfl e104) ?_
    refine Mx.XL_pure rfl rfl rfl (fun w' hw' => Do_assign (v := .int .u16 x103) rfl) ?_
    refine Mx.XL_nil fun w105 hS => ?_
    have H := H.sees hS
    have H := H65.rejoin H
    refine (thenQ_n (hK64 _ _ ?_))
    have hR := Option.some.inj hF
    subst hR
    refine (WP_ret (thenQ_r (post1 (v1 := .int .u16 x103) rfl rfl ?_)))
    exact ⟨rfl, H.pick [] (by decide)⟩
  · have hF := iteB_f c63 hF
    refine (WP_skip (thenQ_n (hK57 _ _ ?_)))
    refine WP_seq_k fun K106 hK106 => ?_
    have H107 := H
    have H := H.rebase
    have H108 := H
    refine WP_mix0 H [0, 1, 2, 3, 4, 5, 6, 7, 8, 9, 10, 11, 12, 13, 14, 15, 16, 17] [.pure, .pure, .pure, .pure, .pure, .read, .pure, .pure, .pure, .pure, .pure, .pure, .pure, .pure, .read, .pure, .pure, .pure] mixed (by kernel_rfl) (by kernel_rfl) (by kernel_rfl) rfl ?_
    refine Mx.XL_pure rfl rfl rfl (fun w' hw' => Do_move (v := .pointer v1) rfl) ?_
    refine Mx.XL_pure rfl rfl rfl (fun w' hw' => Do_move (v := .int .i64 x7) rfl) ?_
    obtain ⟨x109, e110, hF⟩ := letO_some hF
    refine Mx.XL_pure rfl rfl rfl (fun w' hw' => Do_add (a := x7) (b := 1) rfl rfl e110) ?_
    obtain ⟨x111, e112, hF⟩ := bindO_some hF
    obtain ⟨b113, o114, cs115, q116, h117, h118, h119, h120⟩ := ptf_some ((H.item (i := 0) rfl) : PtF _ _ _ _ _) e112
    obtain rfl : cs115 = (Fl.arr 96 (Fl.int .u8)).f x111 := h119
    have H := H.fz (.at b113 o114 _) ⟨h117, h118, h120⟩
    refine Mx.XL_pure rfl rfl rfl (fun w' hw' => Do_nilCheck (ad := ⟨b113, o114, none⟩) (congrArg Value.pointer q116)) ?_
    obtain ⟨x122, e123, hF⟩ := bindO_some hF
    refine Mx.XL_pure rfl rfl rfl (fun w' hw' => Do_idxA (X := x111) u116 sz5 rfl rfl e123) ?_
    refine Mx.XL_read oS rfl rfl rfl (fun w' hw' => Do_load1 (v := .int .u8 x122) one5 rfl (Cells.ix (e := (Fl.int .u8)) (x := x111) ((H.sees hw').item (i := 1) rfl).2.2 e123)) ?_
    obtain ⟨x124, e125, hF⟩ := letO_some hF
    refine Mx.XL_pure rfl rfl rfl (fun w' hw' => Do_conv u5 u23 rfl e125) ?_
    obtain ⟨x126, e127, hF⟩ := letO_some hF
    refine Mx.XL_pure rfl rfl rfl (fun w' hw' => Do_and (a := x124) (b := 15) rfl rfl e127) ?_
    obtain ⟨x128, e129, hF⟩ := bindO_some hF
    refine Mx.XL_pure rfl rfl rfl (fun w' hw' => Do_shl' (j := x126) (q := 8) rfl rfl e129) ?_
    refine Mx.XL_pure rfl rfl rfl (fun w' hw' => Do_move (v := .pointer v1) rfl) ?_
    refine Mx.XL_pure rfl rfl rfl (fun w' hw' => Do_move (v := .int .i64 x7) rfl) ?_
    obtain ⟨x130, e131, hF⟩ := letO_some hF
    refine Mx.XL_pure rfl rfl rfl (fun w' hw' => Do_add (a := x7) (b := 2) rfl rfl e131) ?_
    obtain ⟨x132, e133, hF⟩ := bindO_some hF
    obtain ⟨b134, o135, cs136, q137, h138, h139, h140, h141⟩ := ptf_some ((H.item (i := 0) rfl) : PtF _ _ _ _ _) e133
    obtain rfl : cs136 = (Fl.arr 96 (Fl.int .u8)).f x132 := h140
    have H := H.fz (.at b134 o135 _) ⟨h138, h139, h141⟩
    refine Mx.XL_pure rfl rfl rfl (fun w' hw' => Do_nilCheck (ad := ⟨b134, o135, none⟩) (congrArg Value.pointer q137)) ?_
    obtain ⟨x143, e144, hF⟩ := bindO_some hF
    refine Mx.XL_pure rfl rfl rfl (fun w' hw' => Do_idxA (X := x132) u116 sz5 rfl rfl e144) ?_
    refine Mx.XL_read oS rfl rfl rfl (fun w' hw' => Do_load1 (v := .int .u8 x143) one5 rfl (Cells.ix (e := (Fl.int .u8)) (x := x132) ((H.sees hw').item (i := 2) rfl).2.2 e144)) ?_
    obtain ⟨x145, e146, hF⟩ := letO_some hF
    refine Mx.XL_pure rfl rfl rfl (fun w' hw' => Do_conv u5 u23 rfl e146) ?_
    obtain ⟨x147, e148, hF⟩ := letO_some hF
    refine Mx.XL_pure rfl rfl rfl (fun w' hw' => Do_or (a := x128) (b := x145) rfl rfl e148) ?_
    refine Mx.XL_pure rfl rfl rfl (fun w' hw' => Do_assign (v := .int .u16 x147) rfl) ?_
    refine Mx.XL_nil fun w149 hS => ?_
    have H := H.sees hS
    have H := H107.rejoin H
    refine (thenQ_n (hK106 _ _ ?_))
    have hR := Option.some.inj hF
    subst hR
    refine (WP_ret (post1 (v1 := .int .u16 x147) rfl rfl ?_))
    exact ⟨rfl, H.pick [] (by decide)⟩
end Go.Proofs.YtafgmocdnjdmoaaDoor.L
namespace Go.Proofs.YtafgmocdnjdmoaaDoor.L
open Go.RowKit Go.OB Go.Lf
/- orangebox/frame.load -/
set_option maxHeartbeats 4000000 in
theorem F_frame_load_w (p0 : Option (Arr 96 Int)) (v1 : Option Addr) (r : (Arr 64 Int)) (hF : F_frame_load p0 = some r) (O S : List Nat) (w : World) (H : Hd O w w S [.fz (.pt (Rp.fl (Fl.arr 96 (Fl.int .u8))) v1 p0)]) :
    Calls Tryd.prog 94 ([.pointer v1] : List Value).toArray w fun e w' => e = .returned (.agg ((Fl.arr 64 (Fl.int .u16)).f r).toArray) ∧ Hd O w w' S [] := by
  unfold F_frame_load at hF
  refine calls_of_WP 15 Tryd.func94 rfl rfl rfl ?_
  refine WP_seq_k fun K3 hK3 => ?_
  refine WP_region ?_
  refine RL_ex rfl rfl (Lx_alloc zero25 H) ?_
  rintro _ w6 ⟨b4, rfl, H⟩
  refine (RL_nil (thenQ_n (hK3 _ _ ?_)))
  refine WP_seq_k fun K7 hK7 => ?_
  refine WP_region ?_
  refine RL_ex rfl rfl (Lx_alloc zero25 H) ?_
  rintro _ w10 ⟨b8, rfl, H⟩
  refine (RL_nil (thenQ_n (hK7 _ _ ?_)))
  obtain ⟨g82, hF, hK84⟩ := bindO_some hF
  refine WP_seqS [4, 5, 6, 7, 8, 9, 10, 11, 12, 13] (fun (g : Unit) => []) (fun g wl => Hd O w wl S [.blk b4 ((Fl.arr 64 (Fl.int .u16)).f (Arr.rep 64 0 : Arr 64 Int)) 25, .blk b8 ((Fl.arr 64 (Fl.int .u16)).f g82) 25]) ?_ ?_
  · skip
    refine WP_seq_k fun K85 hK85 => ?_
    refine WP_region ?_
    refine RL_do rfl rfl (Do_move (v := .int .i64 0) rfl) ?_
    refine (RL_nil (thenQ_n (hK85 _ _ ?_)))
    refine WP_block ?_
    unfold F_frame_load_L1 at hF
    obtain ⟨B152, n153, eB154, hF⟩ := loopO_some hF
    refine WP_loopS [4, 5, 6, 7, 8, 9, 10, 11, 12, 13] (fun (g : Nat × Int × (Arr 64 Int)) => [(5, .int .i64 g.2.1)]) (fun g wl => Hd O w wl S [.fz (.pt (Rp.fl (Fl.arr 96 (Fl.int .u8))) v1 p0), .blk b4 ((Fl.arr 64 (Fl.int .u16)).f (Arr.rep 64 0 : Arr 64 Int)) 25, .blk b8 ((Fl.arr 64 (Fl.int .u16)).f g.2.2) 25] ∧ loopN B152 g.1 (g.2.1, g.2.2) = some g82) (fun g => g.1) (n153, 0, (Arr.rep 64 0 : Arr 64 Int)) (Sl_cons rfl Sl_nil) ⟨H.pick [0, 1, 2] (by decide), hF⟩ ?_
    clear H hF
    rintro ⟨n153, g150, g151⟩ ρ w156 ⟨H, hF⟩
    obtain ⟨n157, rfl, hF⟩ := loopN_pos hF
    have hF := loop_body eB154 hF
    refine WP_seq_k fun K158 hK158 => ?_
    refine WP_region ?_
    obtain ⟨x159, e160, hF⟩ := letO_some hF
    refine RL_do rfl rfl (Do_as (Do_lss (a := g150) (b := 64) rfl rfl) (congrArg Value.bool e160)) ?_
    refine (RL_nil (thenQ_n (hK158 _ _ ?_)))
    refine WP_seq_k fun K162 hK162 => ?_
    refine WP_ifb (b := x159) rfl (fun c163 => ?_) (fun c163 => ?_)
    · have hF := iteB_t c163 hF
      refine (WP_skip (thenQ_n (hK162 _ _ ?_)))
      refine WP_seq_k fun K175 hK175 => ?_
      refine WP_block ?_
      refine WP_seq_k fun K176 hK176 => ?_
      refine WP_region ?_
      refine RL_do rfl rfl (Do_move (v := .int .i64 g150) rfl) ?_
      refine RL_do rfl rfl (Do_assign (v := .int .i64 g150) rfl) ?_
      refine (RL_nil (thenQ_n (hK176 _ _ ?_)))
      refine WP_region ?_
      refine RL_do rfl rfl (Do_move (v := .int .i64 g150) rfl) ?_
      refine RL_do rfl rfl (Do_move (v := .pointer v1) rfl) ?_
      refine RL_do rfl rfl (Do_move (v := .int .i64 g150) rfl) ?_
      have H177 := H
      obtain ⟨x178, e179, hF⟩ := bindO_some hF
      refine RL_call rfl rfl (DoC_func en106 rfl) (F_frame_wordIn_w p0 g150 v1 _ e179 _ _ _ (H.enter [] [0] (by decide) rfl)) ?_
      rintro _ w180 ⟨rfl, G181⟩
      have H := H177.step (G181.only : Only [] _ _)
      refine ⟨_, rfl, ?_⟩
      obtain ⟨x182, e183, hF⟩ := bindO_some hF
      refine RL_do rfl rfl (Do_idxA (X := g151) u25 sz23 rfl rfl e183) ?_
      obtain ⟨x184, e185, hF⟩ := letO_some hF
      refine RL_exU rfl (Lx_storeA (e := (Fl.int .u16)) (X := g151) (a := x178) (j := g150) H 2 rfl sz23 rfl (v := .int .u16 x178) rfl rfl (Arr.at_lt e183).1 (Arr.at_lt e183).2 e185) ?_
      rintro w186 H
      refine (RL_nil (blockQ_n (thenQ_n (hK175 _ _ ?_))))
      refine WP_region ?_
      obtain ⟨x187, e188, hF⟩ := letO_some hF
      refine RL_do rfl rfl (Do_add (a := g150) (b := 1) rfl rfl e188) ?_
      refine RL_do rfl rfl (Do_move (v := .int .i64 x187) rfl) ?_
      refine (RL_nil (thenQ_n (And.intro ?_ ?_)))
      · repeat' (first | with_reducible exact Fr_refl | refine Fr_upd rfl ?_ | refine Fr_over rfl rfl ?_)
      · exact ⟨(n157, x187, x184), (Sl_cons rfl Sl_nil), ⟨H.pick [0, 1, 2] (by decide), hF⟩, Nat.lt_succ_self _⟩
    · have hF := iteB_f c163 hF
      have hR := Option.some.inj hF
      subst hR
      refine (WP_exit (thenQ_x (thenQ_x (blockQ_eq (thenQ_n (And.intro ?_ ?_))))))
      · repeat' (first | with_reducible exact Fr_refl | refine Fr_upd rfl ?_ | refine Fr_over rfl rfl ?_)
      · exact ⟨(), Sl_nil, H.pick [1, 2] (by decide)⟩
  · rintro _ ρ w83 H
    have hF := hK84
    refine WP_seq_k fun K189 hK189 => ?_
    refine WP_region ?_
    refine RL_do rfl rfl (Do_loadF (e := (Fl.arr 64 (Fl.int .u16))) (a := g82) agg25 rfl sz25 (Blk.cells (H.item (i := 1) rfl))) ?_
    refine RL_exU rfl (Lx_storeW (e := (Fl.arr 64 (Fl.int .u16))) (a := (Arr.rep 64 0 : Arr 64 Int)) (a' := g82) H 0 rfl sz25 rfl rfl) ?_
    rintro w190 H
    refine (RL_nil (thenQ_n (hK189 _ _ ?_)))
    have hR := Option.some.inj hF
    subst hR
    refine (WP_ret (postc  rfl rfl (run_loadVar_agg agg25 sz25 (Fl.len _ _) (Blk.cells (H.item (i := 0) rfl))) ?_))
    exact ⟨rfl, H.pick [] (by decide)⟩
end Go.Proofs.YtafgmocdnjdmoaaDoor.L
namespace Go.Proofs.YtafgmocdnjdmoaaDoor.L
open Go.RowKit Go.OB Go.Lf
/- orangebox/frame.FromBytes -/
set_option maxHeartbeats 4000000 in
theorem F_frame_FromBytes_w (p0 : List Int) (v1 : Value) (r : (Arr 64 Int) × Int) (hF : F_frame_FromBytes p0 = some r) (O S : List Nat) (w : World) (H : Hd O w w S [.fz (.sl (Rp.int .u8) v1 p0)]) :
    Calls Tryd.prog 37 ([v1] : List Value).toArray w fun e w' => e = .returned (.tuple #[.agg ((Fl.arr 64 (Fl.int .u16)).f r.1).toArray, .int .i64 r.2]) ∧ Hd O w w' S [] := by
  unfold F_frame_FromBytes at hF
  refine calls_of_WP 14 Tryd.func37 rfl rfl rfl ?_
  refine WP_seq_k fun K3 hK3 => ?_
  refine WP_region ?_
  refine RL_ex rfl rfl (Lx_alloc zero25 H) ?_
  rintro _ w6 ⟨b4, rfl, H⟩
  refine RL_do rfl rfl (Do_assign (v := .int .i64 0) rfl) ?_
  refine (RL_nil (thenQ_n (hK3 _ _ ?_)))
  refine WP_seq_k fun K18 hK18 => ?_
  refine WP_seq_k fun K19 hK19 => ?_
  refine WP_region ?_
  refine RL_do rfl rfl (Do_move (v := v1) rfl) ?_
  obtain ⟨x20, e21, hF⟩ := letO_some hF
  obtain ⟨a22, c23, q24⟩ := SlF.len ((H.item (i := 0) rfl))
  refine RL_do rfl rfl (Do_as (Do_len u22 q24) (congrArg (Value.int .i64) e21)) ?_
  obtain ⟨x25, e26, hF⟩ := letO_some hF
  refine RL_do rfl rfl (Do_as (Do_lss (a := x20) (b := 96) rfl rfl) (congrArg Value.bool e26)) ?_
  refine (RL_nil (thenQ_n (hK19 _ _ ?_)))
  refine WP_ifb (b := x25) rfl (fun c27 => ?_) (fun c27 => ?_)
  · have hF := iteB_t c27 hF
    refine WP_seq_k fun K28 hK28 => ?_
    refine WP_region ?_
    refine RL_do rfl rfl (Do_build (cs := (Fl.arr 64 (Fl.int .u16)).f (Arr.rep 64 0 : Arr 64 Int)) bz25) ?_
    refine RL_exU rfl (Lx_storeW (e := (Fl.arr 64 (Fl.int .u16))) (a := (Arr.rep 64 0 : Arr 64 Int)) (a' := (Arr.rep 64 0 : Arr 64 Int)) H 1 rfl sz25 rfl rfl) ?_
    rintro w29 H
    refine RL_do rfl rfl (Do_assign (v := .int .i64 3) rfl) ?_
    refine (RL_nil (thenQ_n (hK28 _ _ ?_)))
    have hR := Option.some.inj hF
    subst hR
    refine (WP_ret (thenQ_r (postc1 (v1 := .int .i64 3) rfl rfl (run_loadVar_agg agg25 sz25 (Fl.len _ _) (Blk.cells (H.item (i := 1) rfl))) rfl ?_)))
    exact ⟨rfl, H.pick [] (by decide)⟩
  · have hF := iteB_f c27 hF
    refine (WP_skip (thenQ_n (hK18 _ _ ?_)))
    refine WP_seq_k fun K30 hK30 => ?_
    refine WP_region ?_
    refine RL_do rfl rfl (Do_move (v := v1) rfl) ?_
    obtain ⟨x31, e32, hF⟩ := bindO_some hF
    refine RL_exP rfl rfl (Lx_slice_h u22 sz5 (H.item (i := 0) rfl) rfl rfl e32) ?_
    rintro v33 h34
    have H := H.fz (.sl (Rp.int .u8) v33 x31) h34
    obtain ⟨x36, e37, hF⟩ := bindO_some hF
    obtain ⟨b38, o39, h40, h41, h42, h43⟩ := Lx_toArr (e := (Fl.int .u8)) (r := (Rp.int .u8)) (fun _ _ _ _ => Iff.rfl) rfl (H.item (i := 2) rfl) e37 (by decide)
    have H := H.fz (.at b38 o39 _) ⟨h41, h42, h43⟩
    refine RL_do rfl rfl (Do_toArrF u116 rfl h40 e37) ?_
    refine RL_do rfl rfl (Do_loadF (e := (Fl.arr 96 (Fl.int .u8))) (a := x36) agg116 rfl sz116 (H.item (i := 3) rfl).2.2) ?_
    refine RL_ex rfl rfl (Lx_alloc zero116 H) ?_
    rintro _ w47 ⟨b45, rfl, H⟩
    refine RL_exU rfl (Lx_storeW (e := (Fl.arr 96 (Fl.int .u8))) (a := (Arr.rep 96 0 : Arr 96 Int)) (a' := x36) H 4 rfl sz116 rfl rfl) ?_
    rintro w48 H
    refine (RL_nil (thenQ_n (hK30 _ _ ?_)))
    refine WP_seq_k fun K49 hK49 => ?_
    refine WP_region ?_
    have H50 := H
    have H := H.freezeB (i := 4) rfl
    have H := H.fz (.pt (Rp.fl (Fl.arr 96 (Fl.int .u8))) (some ⟨b45, 0, none⟩) (some x36)) ⟨_, _, _, rfl, (H.item (i := 4) rfl).1, (H.item (i := 4) rfl).2.1, rfl, (H.item (i := 4) rfl).2.2⟩
    obtain ⟨x52, e53, hF⟩ := bindO_some hF
    refine RL_call rfl rfl (DoC_func en94 rfl) (F_frame_load_w (some x36) (some ⟨b45, 0, none⟩) _ e53 _ _ _ (H.enter [] [5] (by decide) rfl)) ?_
    rintro _ w54 ⟨rfl, G55⟩
    have H := H50.step (G55.only : Only [] _ _)
    refine ⟨_, rfl, ?_⟩
    refine RL_exU rfl (Lx_storeW (e := (Fl.arr 64 (Fl.int .u16))) (a := (Arr.rep 64 0 : Arr 64 Int)) (a' := x52) H 1 rfl sz25 rfl rfl) ?_
    rintro w56 H
    refine RL_do rfl rfl (Do_assign (v := .int .i64 0) rfl) ?_
    refine (RL_nil (thenQ_n (hK49 _ _ ?_)))
    have hR := Option.some.inj hF
    subst hR
    refine (WP_ret (postc1 (v1 := .int .i64 0) rfl rfl (run_loadVar_agg agg25 sz25 (Fl.len _ _) (Blk.cells (H.item (i := 1) rfl))) rfl ?_))
    exact ⟨rfl, H.pick [] (by decide)⟩
end Go.Proofs.YtafgmocdnjdmoaaDoor.L
