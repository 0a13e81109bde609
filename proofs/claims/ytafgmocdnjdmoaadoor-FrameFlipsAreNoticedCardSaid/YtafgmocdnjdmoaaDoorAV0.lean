/- Walks: what each function computes, for every argument; no condition but those that stand in the statements. -/
import Derived.Test.YtafgmocdnjdmoaaDoorRows
import Derived.Test.YtafgmocdnjdmoaaDoorAP
import Derived.Test.YtafgmocdnjdmoaaDoorXAw
namespace Go.Proofs.YtafgmocdnjdmoaaDoor.L
open Go.RowKit Go.OB Go.Lf
theorem u3 : Tryd.prog.underlying 3 = some (.int .i64) := Tryd.underlying3
theorem u4 : Tryd.prog.underlying 4 = some .bool := Tryd.underlying4
theorem u5 : Tryd.prog.underlying 5 = some (.int .u8) := Tryd.underlying5
theorem u9 : Tryd.prog.underlying 9 = some .string := Tryd.underlying9
theorem u22 : Tryd.prog.underlying 22 = some (.slice 5) := Tryd.underlying22
theorem u23 : Tryd.prog.underlying 23 = some (.int .u16) := Tryd.underlying23
theorem u25 : Tryd.prog.underlying 25 = some (.array 64 23) := Tryd.underlying25
theorem u46 : Tryd.prog.underlying 46 = some (.slice 3) := Tryd.underlying46
theorem u50 : Tryd.prog.underlying 50 = some (.slice 80) := Tryd.underlying50
theorem u56 : Tryd.prog.underlying 56 = some (.array 8 25) := Tryd.underlying56
theorem u70 : Tryd.prog.underlying 70 = some (.slice 4) := Tryd.underlying70
theorem u82 : Tryd.prog.underlying 82 = some (.array 8 5) := Tryd.underlying82
theorem u90 : Tryd.prog.underlying 90 = some (.slice 25) := Tryd.underlying90
theorem u111 : Tryd.prog.underlying 111 = some (.array 4 23) := Tryd.underlying111
theorem u116 : Tryd.prog.underlying 116 = some (.array 96 5) := Tryd.underlying116
theorem u120 : Tryd.prog.underlying 120 = some (.slice 23) := Tryd.underlying120
theorem u123 : Tryd.prog.underlying 123 = some (.int .u64) := Tryd.underlying123
theorem u124 : Tryd.prog.underlying 124 = some (.array 2 123) := Tryd.underlying124
theorem u125 : Tryd.prog.underlying 125 = some (.slice 123) := Tryd.underlying125
theorem u128 : Tryd.prog.underlying 128 = some (.array 4 3) := Tryd.underlying128
theorem sz3 : Sz Tryd.prog 3 1 := by unfold Sz; kernel_rfl
theorem sz4 : Sz Tryd.prog 4 1 := by unfold Sz; kernel_rfl
theorem sz5 : Sz Tryd.prog 5 1 := by unfold Sz; kernel_rfl
theorem sz23 : Sz Tryd.prog 23 1 := by unfold Sz; kernel_rfl
theorem sz25 : Sz Tryd.prog 25 64 := by unfold Sz; kernel_rfl
theorem sz56 : Sz Tryd.prog 56 512 := by unfold Sz; kernel_rfl
theorem sz80 : Sz Tryd.prog 80 2 := by unfold Sz; kernel_rfl
theorem sz82 : Sz Tryd.prog 82 8 := by unfold Sz; kernel_rfl
theorem sz116 : Sz Tryd.prog 116 96 := by unfold Sz; kernel_rfl
theorem sz123 : Sz Tryd.prog 123 1 := by unfold Sz; kernel_rfl
theorem one3 : OneC Tryd.prog 3 := by unfold OneC; kernel_rfl
theorem one4 : OneC Tryd.prog 4 := by unfold OneC; kernel_rfl
theorem one5 : OneC Tryd.prog 5 := by unfold OneC; kernel_rfl
theorem one23 : OneC Tryd.prog 23 := by unfold OneC; kernel_rfl
theorem one123 : OneC Tryd.prog 123 := by unfold OneC; kernel_rfl
theorem agg25 : Agg Tryd.prog 25 := by unfold Agg; kernel_rfl
theorem agg56 : Agg Tryd.prog 56 := by unfold Agg; kernel_rfl
theorem agg80 : Agg Tryd.prog 80 := by unfold Agg; kernel_rfl
theorem agg82 : Agg Tryd.prog 82 := by unfold Agg; kernel_rfl
theorem agg116 : Agg Tryd.prog 116 := by unfold Agg; kernel_rfl
theorem zero25 : Go.OB.Zero Tryd.prog 25 ((Fl.arr 64 (Fl.int .u16)).f (Arr.rep 64 0 : Arr 64 Int)) := by unfold Go.OB.Zero; kernel_rfl
theorem zero56 : Go.OB.Zero Tryd.prog 56 ((Fl.arr 8 (Fl.arr 64 (Fl.int .u16))).f (Arr.rep 8 (Arr.rep 64 0 : Arr 64 Int) : Arr 8 (Arr 64 Int))) := by unfold Go.OB.Zero; kernel_rfl
theorem zero82 : Go.OB.Zero Tryd.prog 82 ((Fl.arr 8 (Fl.int .u8)).f (Arr.rep 8 0 : Arr 8 Int)) := by unfold Go.OB.Zero; kernel_rfl
theorem zero116 : Go.OB.Zero Tryd.prog 116 ((Fl.arr 96 (Fl.int .u8)).f (Arr.rep 96 0 : Arr 96 Int)) := by unfold Go.OB.Zero; kernel_rfl
theorem el3 : El Tryd.prog 3 1 8 ([.int .i64 0]) := ⟨by kernel_rfl, by kernel_rfl, by kernel_rfl, by decide, by decide⟩
theorem el4 : El Tryd.prog 4 1 1 ([.bool false]) := ⟨by kernel_rfl, by kernel_rfl, by kernel_rfl, by decide, by decide⟩
theorem el5 : El Tryd.prog 5 1 1 ([.int .u8 0]) := ⟨by kernel_rfl, by kernel_rfl, by kernel_rfl, by decide, by decide⟩
theorem el25 : El Tryd.prog 25 64 128 ((Fl.arr 64 (Fl.int .u16)).f (Arr.rep 64 0 : Arr 64 Int)) := ⟨by kernel_rfl, by kernel_rfl, by kernel_rfl, by decide, by decide⟩
theorem el80 : El Tryd.prog 80 2 16 ([.int .i64 0, .int .i64 0]) := ⟨by kernel_rfl, by kernel_rfl, by kernel_rfl, by decide, by decide⟩
theorem el123 : El Tryd.prog 123 1 8 ([.int .u64 0]) := ⟨by kernel_rfl, by kernel_rfl, by kernel_rfl, by decide, by decide⟩
theorem bz25 : Tryd.prog.built 25 [] = some ((Fl.arr 64 (Fl.int .u16)).f (Arr.rep 64 0 : Arr 64 Int)).toArray := by kernel_rfl
theorem bt80_0_1 (a0 : Int) (a1 : Int) : Tryd.prog.built 80 [(0, .int .i64 a0), (1, .int .i64 a1)] = some [.int .i64 a0, .int .i64 a1].toArray := by kernel_rfl
theorem bt124_0_1 (a0 : Int) (a1 : Int) : Tryd.prog.built 124 [(0, .int .u64 a0), (1, .int .u64 a1)] = some [.int .u64 a0, .int .u64 a1].toArray := by kernel_rfl
theorem bt128_0_1_2_3 (a0 : Int) (a1 : Int) (a2 : Int) (a3 : Int) : Tryd.prog.built 128 [(0, .int .i64 a0), (1, .int .i64 a1), (2, .int .i64 a2), (3, .int .i64 a3)] = some [.int .i64 a0, .int .i64 a1, .int .i64 a2, .int .i64 a3].toArray := by kernel_rfl
theorem eqf23 : EqF Tryd.prog 23 (Fl.int .u16) 1 := EqF.int Tryd.underlying23
theorem eqf3 : EqF Tryd.prog 3 (Fl.int .i64) 1 := EqF.int Tryd.underlying3
theorem eqf5 : EqF Tryd.prog 5 (Fl.int .u8) 1 := EqF.int Tryd.underlying5
theorem eqf25 : EqF Tryd.prog 25 (Fl.arr 64 (Fl.int .u16)) 2 := EqF.arr Tryd.underlying25 (by unfold Sz; kernel_rfl) (by unfold Sz; kernel_rfl) eqf23
theorem eqf80 : EqF Tryd.prog 80 flFlaw 2 := EqF.struct (k := 1) (fun x y h => by cases x; cases y; simp_all) Tryd.underlying80 (by kernel_rfl) (by unfold Sz; kernel_rfl) ((EqFs.cons rfl (by decide) (eqf3.up (by decide)) (EqFs.one rfl (by decide) (eqf3.up (by decide)))))
theorem eqf82 : EqF Tryd.prog 82 (Fl.arr 8 (Fl.int .u8)) 2 := EqF.arr Tryd.underlying82 (by unfold Sz; kernel_rfl) (by unfold Sz; kernel_rfl) eqf5
theorem eqf116 : EqF Tryd.prog 116 (Fl.arr 96 (Fl.int .u8)) 2 := EqF.arr Tryd.underlying116 (by unfold Sz; kernel_rfl) (by unfold Sz; kernel_rfl) eqf5
theorem eqf56 : EqF Tryd.prog 56 (Fl.arr 8 (Fl.arr 64 (Fl.int .u16))) 3 := EqF.arr Tryd.underlying56 (by unfold Sz; kernel_rfl) (by unfold Sz; kernel_rfl) eqf25
theorem en19 : Enters Tryd.prog 19 := ⟨_, Tryd.func19, rfl, by kernel_rfl⟩
theorem en21 : Enters Tryd.prog 21 := ⟨_, Tryd.func21, rfl, by kernel_rfl⟩
theorem en22 : Enters Tryd.prog 22 := ⟨_, Tryd.func22, rfl, by kernel_rfl⟩
theorem en32 : Enters Tryd.prog 32 := ⟨_, Tryd.func32, rfl, by kernel_rfl⟩
theorem en33 : Enters Tryd.prog 33 := ⟨_, Tryd.func33, rfl, by kernel_rfl⟩
theorem en34 : Enters Tryd.prog 34 := ⟨_, Tryd.func34, rfl, by kernel_rfl⟩
theorem en37 : Enters Tryd.prog 37 := ⟨_, Tryd.func37, rfl, by kernel_rfl⟩
theorem en44 : Enters Tryd.prog 44 := ⟨_, Tryd.func44, rfl, by kernel_rfl⟩
theorem en45 : Enters Tryd.prog 45 := ⟨_, Tryd.func45, rfl, by kernel_rfl⟩
theorem en46 : Enters Tryd.prog 46 := ⟨_, Tryd.func46, rfl, by kernel_rfl⟩
theorem en47 : Enters Tryd.prog 47 := ⟨_, Tryd.func47, rfl, by kernel_rfl⟩
theorem en48 : Enters Tryd.prog 48 := ⟨_, Tryd.func48, rfl, by kernel_rfl⟩
theorem en49 : Enters Tryd.prog 49 := ⟨_, Tryd.func49, rfl, by kernel_rfl⟩
theorem en50 : Enters Tryd.prog 50 := ⟨_, Tryd.func50, rfl, by kernel_rfl⟩
theorem en51 : Enters Tryd.prog 51 := ⟨_, Tryd.func51, rfl, by kernel_rfl⟩
theorem en52 : Enters Tryd.prog 52 := ⟨_, Tryd.func52, rfl, by kernel_rfl⟩
theorem en53 : Enters Tryd.prog 53 := ⟨_, Tryd.func53, rfl, by kernel_rfl⟩
theorem en54 : Enters Tryd.prog 54 := ⟨_, Tryd.func54, rfl, by kernel_rfl⟩
theorem en55 : Enters Tryd.prog 55 := ⟨_, Tryd.func55, rfl, by kernel_rfl⟩
theorem en56 : Enters Tryd.prog 56 := ⟨_, Tryd.func56, rfl, by kernel_rfl⟩
theorem en57 : Enters Tryd.prog 57 := ⟨_, Tryd.func57, rfl, by kernel_rfl⟩
theorem en58 : Enters Tryd.prog 58 := ⟨_, Tryd.func58, rfl, by kernel_rfl⟩
theorem en59 : Enters Tryd.prog 59 := ⟨_, Tryd.func59, rfl, by kernel_rfl⟩
theorem en60 : Enters Tryd.prog 60 := ⟨_, Tryd.func60, rfl, by kernel_rfl⟩
theorem en61 : Enters Tryd.prog 61 := ⟨_, Tryd.func61, rfl, by kernel_rfl⟩
theorem en62 : Enters Tryd.prog 62 := ⟨_, Tryd.func62, rfl, by kernel_rfl⟩
theorem en63 : Enters Tryd.prog 63 := ⟨_, Tryd.func63, rfl, by kernel_rfl⟩
theorem en64 : Enters Tryd.prog 64 := ⟨_, Tryd.func64, rfl, by kernel_rfl⟩
theorem en65 : Enters Tryd.prog 65 := ⟨_, Tryd.func65, rfl, by kernel_rfl⟩
theorem en66 : Enters Tryd.prog 66 := ⟨_, Tryd.func66, rfl, by kernel_rfl⟩
theorem en67 : Enters Tryd.prog 67 := ⟨_, Tryd.func67, rfl, by kernel_rfl⟩
theorem en68 : Enters Tryd.prog 68 := ⟨_, Tryd.func68, rfl, by kernel_rfl⟩
theorem en69 : Enters Tryd.prog 69 := ⟨_, Tryd.func69, rfl, by kernel_rfl⟩
theorem en70 : Enters Tryd.prog 70 := ⟨_, Tryd.func70, rfl, by kernel_rfl⟩
theorem en71 : Enters Tryd.prog 71 := ⟨_, Tryd.func71, rfl, by kernel_rfl⟩
theorem en72 : Enters Tryd.prog 72 := ⟨_, Tryd.func72, rfl, by kernel_rfl⟩
theorem en73 : Enters Tryd.prog 73 := ⟨_, Tryd.func73, rfl, by kernel_rfl⟩
theorem en74 : Enters Tryd.prog 74 := ⟨_, Tryd.func74, rfl, by kernel_rfl⟩
theorem en77 : Enters Tryd.prog 77 := ⟨_, Tryd.func77, rfl, by kernel_rfl⟩
theorem en78 : Enters Tryd.prog 78 := ⟨_, Tryd.func78, rfl, by kernel_rfl⟩
theorem en80 : Enters Tryd.prog 80 := ⟨_, Tryd.func80, rfl, by kernel_rfl⟩
theorem en81 : Enters Tryd.prog 81 := ⟨_, Tryd.func81, rfl, by kernel_rfl⟩
theorem en83 : Enters Tryd.prog 83 := ⟨_, Tryd.func83, rfl, by kernel_rfl⟩
theorem en84 : Enters Tryd.prog 84 := ⟨_, Tryd.func84, rfl, by kernel_rfl⟩
theorem en85 : Enters Tryd.prog 85 := ⟨_, Tryd.func85, rfl, by kernel_rfl⟩
theorem en86 : Enters Tryd.prog 86 := ⟨_, Tryd.func86, rfl, by kernel_rfl⟩
theorem en87 : Enters Tryd.prog 87 := ⟨_, Tryd.func87, rfl, by kernel_rfl⟩
theorem en88 : Enters Tryd.prog 88 := ⟨_, Tryd.func88, rfl, by kernel_rfl⟩
theorem en89 : Enters Tryd.prog 89 := ⟨_, Tryd.func89, rfl, by kernel_rfl⟩
theorem en90 : Enters Tryd.prog 90 := ⟨_, Tryd.func90, rfl, by kernel_rfl⟩
theorem en91 : Enters Tryd.prog 91 := ⟨_, Tryd.func91, rfl, by kernel_rfl⟩
theorem en92 : Enters Tryd.prog 92 := ⟨_, Tryd.func92, rfl, by kernel_rfl⟩
theorem en93 : Enters Tryd.prog 93 := ⟨_, Tryd.func93, rfl, by kernel_rfl⟩
theorem en94 : Enters Tryd.prog 94 := ⟨_, Tryd.func94, rfl, by kernel_rfl⟩
theorem en95 : Enters Tryd.prog 95 := ⟨_, Tryd.func95, rfl, by kernel_rfl⟩
theorem en96 : Enters Tryd.prog 96 := ⟨_, Tryd.func96, rfl, by kernel_rfl⟩
theorem en97 : Enters Tryd.prog 97 := ⟨_, Tryd.func97, rfl, by kernel_rfl⟩
theorem en98 : Enters Tryd.prog 98 := ⟨_, Tryd.func98, rfl, by kernel_rfl⟩
theorem en99 : Enters Tryd.prog 99 := ⟨_, Tryd.func99, rfl, by kernel_rfl⟩
theorem en100 : Enters Tryd.prog 100 := ⟨_, Tryd.func100, rfl, by kernel_rfl⟩
theorem en101 : Enters Tryd.prog 101 := ⟨_, Tryd.func101, rfl, by kernel_rfl⟩
theorem en102 : Enters Tryd.prog 102 := ⟨_, Tryd.func102, rfl, by kernel_rfl⟩
theorem en103 : Enters Tryd.prog 103 := ⟨_, Tryd.func103, rfl, by kernel_rfl⟩
theorem en104 : Enters Tryd.prog 104 := ⟨_, Tryd.func104, rfl, by kernel_rfl⟩
theorem en105 : Enters Tryd.prog 105 := ⟨_, Tryd.func105, rfl, by kernel_rfl⟩
theorem en106 : Enters Tryd.prog 106 := ⟨_, Tryd.func106, rfl, by kernel_rfl⟩
theorem mixed : Tryd.prog.follows .mixedOrders = true := by kernel_rfl
end Go.Proofs.YtafgmocdnjdmoaaDoor.L
namespace Go.Proofs.YtafgmocdnjdmoaaDoor.L
open Go.RowKit Go.OB Go.Lf
/- slices.Index[[]int,int] -/
set_option maxHeartbeats 4000000 in
theorem F_slices_Index___int_int__w (p0 : List Int) (p1 : Int) (v1 : Value) (r : Int) (hF : F_slices_Index___int_int_ p0 p1 = some r) (O S : List Nat) (w : World) (H : Hd O w w S [.fz (.sl (Rp.int .i64) v1 p0)]) :
    Calls Tryd.prog 90 ([v1, .int .i64 p1] : List Value).toArray w fun e w' => e = .returned (.int .i64 r) ∧ Hd O w w' S [] := by
  unfold F_slices_Index___int_int_ at hF
  refine calls_of_WP 19 Tryd.func90 rfl rfl rfl ?_
  refine WP_seq_k fun K3 hK3 => ?_
  refine WP_region ?_
  refine RL_do rfl rfl (Do_assign (v := .int .i64 0) rfl) ?_
  refine (RL_nil (thenQ_n (hK3 _ _ ?_)))
  obtain ⟨k108, ek109, hF⟩ := joinO_some hF
  refine WP_seqS [4, 5, 6, 7, 8, 9, 10, 11, 12, 13, 14, 15, 16, 17, 18] (fun (g : Unit) => []) (fun g wl => Hd O w wl S [] ∧ k108 () = some r) ?_ ?_
  · skip
    refine WP_seq_k fun K110 hK110 => ?_
    refine WP_region ?_
    refine RL_do rfl rfl (Do_move (v := v1) rfl) ?_
    obtain ⟨x111, e112, hF⟩ := letO_some hF
    obtain ⟨a113, c114, q115⟩ := SlF.len ((H.item (i := 0) rfl))
    refine RL_do rfl rfl (Do_as (Do_len u46 q115) (congrArg (Value.int .i64) e112)) ?_
    refine RL_do rfl rfl (Do_move (v := .int .i64 0) rfl) ?_
    refine (RL_nil (thenQ_n (hK110 _ _ ?_)))
    refine WP_block ?_
    unfold F_slices_Index___int_int__L1 at hF
    obtain ⟨B208, n209, eB210, hF⟩ := loopO_some hF
    refine WP_loopS [4, 5, 8, 9, 10, 11, 12, 13, 14, 15, 16, 17, 18] (fun (g : Nat × Int) => [(8, .int .i64 g.2)]) (fun g wl => Hd O w wl S [.fz (.sl (Rp.int .i64) v1 p0)] ∧ loopN B208 g.1 g.2 = some r) (fun g => g.1) (n209, 0) (Sl_cons rfl Sl_nil) ⟨H.pick [0] (by decide), hF⟩ ?_
    clear H hF
    rintro ⟨n209, g207⟩ ρ w212 ⟨H, hF⟩
    obtain ⟨n213, rfl, hF⟩ := loopN_pos hF
    have hF := loop_body eB210 hF
    refine WP_seq_k fun K214 hK214 => ?_
    refine WP_region ?_
    obtain ⟨x215, e216, hF⟩ := letO_some hF
    refine RL_do rfl rfl (Do_as (Do_lss (a := g207) (b := x111) rfl rfl) (congrArg Value.bool e216)) ?_
    refine (RL_nil (thenQ_n (hK214 _ _ ?_)))
    refine WP_seq_k fun K218 hK218 => ?_
    refine WP_ifb (b := x215) rfl (fun c219 => ?_) (fun c219 => ?_)
    · have hF := iteB_t c219 hF
      refine (WP_skip (thenQ_n (hK218 _ _ ?_)))
      refine WP_seq_k fun K238 hK238 => ?_
      refine WP_block ?_
      refine WP_seq_k fun K239 hK239 => ?_
      refine WP_region ?_
      refine RL_do rfl rfl (Do_move (v := .int .i64 g207) rfl) ?_
      refine RL_do rfl rfl (Do_assign (v := .int .i64 g207) rfl) ?_
      refine (RL_nil (thenQ_n (hK239 _ _ ?_)))
      refine WP_seq_k fun K240 hK240 => ?_
      refine WP_region ?_
      refine RL_do rfl rfl (Do_move (v := .int .i64 p1) rfl) ?_
      refine RL_do rfl rfl (Do_move (v := v1) rfl) ?_
      refine RL_do rfl rfl (Do_move (v := .int .i64 g207) rfl) ?_
      obtain ⟨x241, e242, hF⟩ := bindO_some hF
      obtain ⟨b243, o244, c245, cs246, q247, h250, h248, h249, h251⟩ := rd_at (H.item (i := 0) rfl) e242
      obtain rfl : cs246 = [.int .i64 x241] := h250
      have H := H.fz (.at b243 (o244 + g207.toNat * 1) _) ⟨h248, h249, h251⟩
      refine RL_do rfl rfl (Do_idx u46 sz3 q247 rfl (at_some e242).1 (at_some e242).2.1 rfl rfl) ?_
      refine RL_do rfl rfl (Do_load one3 rfl (Cells.get (H.item (i := 1) rfl).2.2 (i := 0) rfl)) ?_
      obtain ⟨x253, e254, hF⟩ := letO_some hF
      refine RL_do rfl rfl (Do_as (Do_eql (a := p1) (b := x241) rfl rfl) (congrArg Value.bool e254)) ?_
      refine (RL_nil (thenQ_n (hK240 _ _ ?_)))
      refine WP_ifb (b := x253) rfl (fun c255 => ?_) (fun c255 => ?_)
      · have hF := iteB_t c255 hF
        refine WP_seq_k fun K256 hK256 => ?_
        refine WP_region ?_
        refine RL_do rfl rfl (Do_move (v := .int .i64 g207) rfl) ?_
        refine RL_do rfl rfl (Do_assign (v := .int .i64 g207) rfl) ?_
        refine (RL_nil (thenQ_n (hK256 _ _ ?_)))
        have hR := Option.some.inj hF
        subst hR
        refine (WP_ret (blockQ_r (thenQ_r (thenQ_r (blockQ_r (thenQ_r (post1 (v1 := .int .i64 g207) rfl rfl ?_)))))))
        exact ⟨rfl, H.pick [] (by decide)⟩
      · have hF := iteB_f c255 hF
        refine (WP_skip (blockQ_n (thenQ_n (hK238 _ _ ?_))))
        refine WP_region ?_
        obtain ⟨x257, e258, hF⟩ := letO_some hF
        refine RL_do rfl rfl (Do_add (a := g207) (b := 1) rfl rfl e258) ?_
        refine RL_do rfl rfl (Do_move (v := .int .i64 x257) rfl) ?_
        refine (RL_nil (thenQ_n (And.intro ?_ ?_)))
        · repeat' (first | with_reducible exact Fr_refl | refine Fr_upd rfl ?_ | refine Fr_over rfl rfl ?_)
        · exact ⟨(n213, x257), (Sl_cons rfl Sl_nil), ⟨H.pick [0] (by decide), hF⟩, Nat.lt_succ_self _⟩
    · have hF := iteB_f c219 hF
      refine (WP_exit (thenQ_x (thenQ_x (blockQ_eq (thenQ_n (And.intro ?_ ?_))))))
      · repeat' (first | with_reducible exact Fr_refl | refine Fr_upd rfl ?_ | refine Fr_over rfl rfl ?_)
      · exact ⟨(), Sl_nil, ⟨H.pick [] (by decide), hF⟩⟩
  · rintro _ ρ w107 ⟨H, hF⟩
    have hF := join_body ek109 hF
    refine WP_seq_k fun K259 hK259 => ?_
    refine WP_region ?_
    refine RL_do rfl rfl (Do_assign (v := .int .i64 (-1)) rfl) ?_
    refine (RL_nil (thenQ_n (hK259 _ _ ?_)))
    have hR := Option.some.inj hF
    subst hR
    refine (WP_ret (post1 (v1 := .int .i64 (-1)) rfl rfl ?_))
    exact ⟨rfl, H.pick [] (by decide)⟩
end Go.Proofs.YtafgmocdnjdmoaaDoor.L
namespace Go.Proofs.YtafgmocdnjdmoaaDoor.L
open Go.RowKit Go.OB Go.Lf
/- slices.Contains[[]int,int] -/
set_option maxHeartbeats 4000000 in
theorem F_slices_Contains___int_int__w (p0 : List Int) (p1 : Int) (v1 : Value) (r : Bool) (hF : F_slices_Contains___int_int_ p0 p1 = some r) (O S : List Nat) (w : World) (H : Hd O w w S [.fz (.sl (Rp.int .i64) v1 p0)]) :
    Calls Tryd.prog 33 ([v1, .int .i64 p1] : List Value).toArray w fun e w' => e = .returned (.bool r) ∧ Hd O w w' S [] := by
  unfold F_slices_Contains___int_int_ at hF
  refine calls_of_WP 9 Tryd.func33 rfl rfl rfl ?_
  refine WP_seq_k fun K3 hK3 => ?_
  refine WP_region ?_
  refine RL_do rfl rfl (Do_assign (v := .bool false) rfl) ?_
  refine (RL_nil (thenQ_n (hK3 _ _ ?_)))
  refine WP_seq_k fun K4 hK4 => ?_
  refine WP_region ?_
  refine RL_do rfl rfl (Do_move (v := v1) rfl) ?_
  refine RL_do rfl rfl (Do_move (v := .int .i64 p1) rfl) ?_
  have H5 := H
  obtain ⟨x6, e7, hF⟩ := bindO_some hF
  refine RL_call rfl rfl (DoC_func en90 rfl) (F_slices_Index___int_int__w p0 p1 v1 _ e7 _ _ _ (H.enter [] [0] (by decide) rfl)) ?_
  rintro _ w8 ⟨rfl, G9⟩
  have H := H5.step (G9.only : Only [] _ _)
  refine ⟨_, rfl, ?_⟩
  obtain ⟨x10, e11, hF⟩ := letO_some hF
  refine RL_do rfl rfl (Do_as (Do_geq (a := x6) (b := 0) rfl rfl) (congrArg Value.bool e11)) ?_
  refine RL_do rfl rfl (Do_assign (v := .bool x10) rfl) ?_
  refine (RL_nil (thenQ_n (hK4 _ _ ?_)))
  have hR := Option.some.inj hF
  subst hR
  refine (WP_ret (post1 (v1 := .bool x10) rfl rfl ?_))
  exact ⟨rfl, H.pick [] (by decide)⟩
end Go.Proofs.YtafgmocdnjdmoaaDoor.L
namespace Go.Proofs.YtafgmocdnjdmoaaDoor.L
open Go.RowKit Go.OB Go.Lf
/- math/bits.OnesCount16 -/
set_option maxHeartbeats 4000000 in
theorem F_math_bits_OnesCount16_w (p0 : Int) (r : Int) (hF : F_math_bits_OnesCount16 p0 = some r) (O S : List Nat) (w : World) (H : Hd O w w S []) :
    Calls Tryd.prog 80 ([.int .u16 p0] : List Value).toArray w fun e w' => e = .returned (.int .i64 r) ∧ Hd O w w' S [] := by
  unfold F_math_bits_OnesCount16 at hF
  refine calls_of_WP 11 Tryd.func80 rfl rfl rfl ?_
  refine WP_seq_k fun K1 hK1 => ?_
  refine WP_region ?_
  refine RL_do rfl rfl (Do_assign (v := .int .i64 0) rfl) ?_
  refine (RL_nil (thenQ_n (hK1 _ _ ?_)))
  refine WP_seq_k fun K2 hK2 => ?_
  have H3 := H
  have H := H.rebase
  have H4 := H
  refine WP_mix0 H [0, 1, 2, 3, 4, 5, 6, 7, 8] [.pure, .pure, .pure, .pure, .pure, .pure, .pure, .pure, .pure] mixed (by kernel_rfl) (by kernel_rfl) (by kernel_rfl) rfl ?_
  refine Mx.XL_pure rfl rfl rfl (fun w' hw' => Do_move (v := .int .u16 p0) rfl) ?_
  obtain ⟨x5, e6, hF⟩ := bindO_some hF
  refine Mx.XL_pure rfl rfl rfl (fun w' hw' => Do_shr' (j := p0) (q := 8) rfl rfl e6) ?_
  obtain ⟨x7, e8, hF⟩ := bindO_some hF
  refine Mx.XL_pure rfl rfl rfl (fun w' hw' => Do_sidx (s1 := [0, 1, 1, 2, 1, 2, 2, 3, 1, 2, 2, 3, 2, 3, 3, 4, 1, 2, 2, 3, 2, 3, 3, 4, 2, 3, 3, 4, 3, 4, 4, 5, 1, 2, 2, 3, 2, 3, 3, 4, 2, 3, 3, 4, 3, 4, 4, 5, 2, 3, 3, 4, 3, 4, 4, 5, 3, 4, 4, 5, 4, 5, 5, 6, 1, 2, 2, 3, 2, 3, 3, 4, 2, 3, 3, 4, 3, 4, 4, 5, 2, 3, 3, 4, 3, 4, 4, 5, 3, 4, 4, 5, 4, 5, 5, 6, 2, 3, 3, 4, 3, 4, 4, 5, 3, 4, 4, 5, 4, 5, 5, 6, 3, 4, 4, 5, 4, 5, 5, 6, 4, 5, 5, 6, 5, 6, 6, 7, 1, 2, 2, 3, 2, 3, 3, 4, 2, 3, 3, 4, 3, 4, 4, 5, 2, 3, 3, 4, 3, 4, 4, 5, 3, 4, 4, 5, 4, 5, 5, 6, 2, 3, 3, 4, 3, 4, 4, 5, 3, 4, 4, 5, 4, 5, 5, 6, 3, 4, 4, 5, 4, 5, 5, 6, 4, 5, 5, 6, 5, 6, 6, 7, 2, 3, 3, 4, 3, 4, 4, 5, 3, 4, 4, 5, 4, 5, 5, 6, 3, 4, 4, 5, 4, 5, 5, 6, 4, 5, 5, 6, 5, 6, 6, 7, 3, 4, 4, 5, 4, 5, 5, 6, 4, 5, 5, 6, 5, 6, 6, 7, 4, 5, 5, 6, 5, 6, 6, 7, 5, 6, 6, 7, 6, 7, 7, 8]) (q := x5) u9 rfl rfl e8) ?_
  refine Mx.XL_pure rfl rfl rfl (fun w' hw' => Do_move (v := .int .u16 p0) rfl) ?_
  obtain ⟨x9, e10, hF⟩ := letO_some hF
  refine Mx.XL_pure rfl rfl rfl (fun w' hw' => Do_and (a := p0) (b := 255) rfl rfl e10) ?_
  obtain ⟨x11, e12, hF⟩ := bindO_some hF
  refine Mx.XL_pure rfl rfl rfl (fun w' hw' => Do_sidx (s1 := [0, 1, 1, 2, 1, 2, 2, 3, 1, 2, 2, 3, 2, 3, 3, 4, 1, 2, 2, 3, 2, 3, 3, 4, 2, 3, 3, 4, 3, 4, 4, 5, 1, 2, 2, 3, 2, 3, 3, 4, 2, 3, 3, 4, 3, 4, 4, 5, 2, 3, 3, 4, 3, 4, 4, 5, 3, 4, 4, 5, 4, 5, 5, 6, 1, 2, 2, 3, 2, 3, 3, 4, 2, 3, 3, 4, 3, 4, 4, 5, 2, 3, 3, 4, 3, 4, 4, 5, 3, 4, 4, 5, 4, 5, 5, 6, 2, 3, 3, 4, 3, 4, 4, 5, 3, 4, 4, 5, 4, 5, 5, 6, 3, 4, 4, 5, 4, 5, 5, 6, 4, 5, 5, 6, 5, 6, 6, 7, 1, 2, 2, 3, 2, 3, 3, 4, 2, 3, 3, 4, 3, 4, 4, 5, 2, 3, 3, 4, 3, 4, 4, 5, 3, 4, 4, 5, 4, 5, 5, 6, 2, 3, 3, 4, 3, 4, 4, 5, 3, 4, 4, 5, 4, 5, 5, 6, 3, 4, 4, 5, 4, 5, 5, 6, 4, 5, 5, 6, 5, 6, 6, 7, 2, 3, 3, 4, 3, 4, 4, 5, 3, 4, 4, 5, 4, 5, 5, 6, 3, 4, 4, 5, 4, 5, 5, 6, 4, 5, 5, 6, 5, 6, 6, 7, 3, 4, 4, 5, 4, 5, 5, 6, 4, 5, 5, 6, 5, 6, 6, 7, 4, 5, 5, 6, 5, 6, 6, 7, 5, 6, 6, 7, 6, 7, 7, 8]) (q := x9) u9 rfl rfl e12) ?_
  obtain ⟨x13, e14, hF⟩ := letO_some hF
  refine Mx.XL_pure rfl rfl rfl (fun w' hw' => Do_add (a := x7) (b := x11) rfl rfl e14) ?_
  obtain ⟨x15, e16, hF⟩ := letO_some hF
  refine Mx.XL_pure rfl rfl rfl (fun w' hw' => Do_conv u5 u3 rfl e16) ?_
  refine Mx.XL_pure rfl rfl rfl (fun w' hw' => Do_assign (v := .int .i64 x15) rfl) ?_
  refine Mx.XL_nil fun w17 hS => ?_
  have H := H.sees hS
  have H := H3.rejoin H
  refine (thenQ_n (hK2 _ _ ?_))
  have hR := Option.some.inj hF
  subst hR
  refine (WP_ret (post1 (v1 := .int .i64 x15) rfl rfl ?_))
  exact ⟨rfl, H.pick [] (by decide)⟩
end Go.Proofs.YtafgmocdnjdmoaaDoor.L
namespace Go.Proofs.YtafgmocdnjdmoaaDoor.L
open Go.RowKit Go.OB Go.Lf
/- orangebox/frame.Distance -/
set_option maxHeartbeats 4000000 in
theorem F_frame_Distance_w (p0 : Arr 64 Int) (p1 : Arr 64 Int) (r : Int) (hF : F_frame_Distance p0 p1 = some r) (O S : List Nat) (w : World) (H : Hd O w w S []) :
    Calls Tryd.prog 22 ([.agg ((Fl.arr 64 (Fl.int .u16)).f p0).toArray, .agg ((Fl.arr 64 (Fl.int .u16)).f p1).toArray] : List Value).toArray w fun e w' => e = .returned (.int .i64 r) ∧ Hd O w w' S [] := by
  unfold F_frame_Distance at hF
  refine calls_of_WP 22 Tryd.func22 rfl rfl rfl ?_
  refine WP_seq_k fun K1 hK1 => ?_
  refine WP_region ?_
  refine RL_ex rfl rfl (Lx_box (cs := (Fl.arr 64 (Fl.int .u16)).f p0) rfl H) ?_
  rintro _ w4 ⟨b2, rfl, H⟩
  refine RL_ex rfl rfl (Lx_box (cs := (Fl.arr 64 (Fl.int .u16)).f p1) rfl H) ?_
  rintro _ w7 ⟨b5, rfl, H⟩
  refine RL_do rfl rfl (Do_assign (v := .int .i64 0) rfl) ?_
  refine (RL_nil (thenQ_n (hK1 _ _ ?_)))
  refine WP_seq_k fun K8 hK8 => ?_
  refine WP_region ?_
  refine RL_do rfl rfl (Do_assign (v := .int .i64 0) rfl) ?_
  refine (RL_nil (thenQ_n (hK8 _ _ ?_)))
  obtain ⟨g96, hF, hK98⟩ := bindO_some hF
  refine WP_seqS [5, 6, 7, 8, 9, 10, 11, 12, 13, 14, 15, 16, 17, 18, 19, 20] (fun (g : Unit) => [(5, .int .i64 g96)]) (fun g wl => Hd O w wl S []) ?_ ?_
  · skip
    refine WP_seq_k fun K99 hK99 => ?_
    refine WP_region ?_
    refine RL_do rfl rfl (Do_move (v := .int .i64 0) rfl) ?_
    refine (RL_nil (thenQ_n (hK99 _ _ ?_)))
    refine WP_block ?_
    unfold F_frame_Distance_L1 at hF
    obtain ⟨B182, n183, eB184, hF⟩ := loopO_some hF
    refine WP_loopS [5, 6, 7, 8, 9, 10, 11, 12, 13, 14, 15, 16, 17, 18, 19, 20] (fun (g : Nat × Int × Int) => [(5, .int .i64 g.2.1), (7, .int .i64 g.2.2)]) (fun g wl => Hd O w wl S [.blk b2 ((Fl.arr 64 (Fl.int .u16)).f p0) 25, .blk b5 ((Fl.arr 64 (Fl.int .u16)).f p1) 25] ∧ loopN B182 g.1 (g.2.1, g.2.2) = some g96) (fun g => g.1) (n183, 0, 0) (Sl_cons rfl (Sl_cons rfl Sl_nil)) ⟨H.pick [0, 1] (by decide), hF⟩ ?_
    clear H hF
    rintro ⟨n183, g180, g181⟩ ρ w186 ⟨H, hF⟩
    obtain ⟨n187, rfl, hF⟩ := loopN_pos hF
    have hF := loop_body eB184 hF
    refine WP_seq_k fun K188 hK188 => ?_
    refine WP_region ?_
    obtain ⟨x189, e190, hF⟩ := letO_some hF
    refine RL_do rfl rfl (Do_as (Do_lss (a := g181) (b := 64) rfl rfl) (congrArg Value.bool e190)) ?_
    refine (RL_nil (thenQ_n (hK188 _ _ ?_)))
    refine WP_seq_k fun K192 hK192 => ?_
    refine WP_ifb (b := x189) rfl (fun c193 => ?_) (fun c193 => ?_)
    · have hF := iteB_t c193 hF
      refine (WP_skip (thenQ_n (hK192 _ _ ?_)))
      refine WP_seq_k fun K209 hK209 => ?_
      refine WP_block ?_
      refine WP_seq_k fun K210 hK210 => ?_
      refine WP_region ?_
      refine RL_do rfl rfl (Do_move (v := .int .i64 g181) rfl) ?_
      refine RL_do rfl rfl (Do_assign (v := .int .i64 g181) rfl) ?_
      refine (RL_nil (thenQ_n (hK210 _ _ ?_)))
      have H211 := H
      have H := H.rebase
      have H212 := H
      refine WP_mix0 H [0, 1, 2, 3, 4, 5, 6, 7, 8, 9, 10] [.pure, .pure, .pure, .read, .pure, .pure, .read, .pure, .fcall, .pure, .pure] mixed (by kernel_rfl) (by kernel_rfl) (by kernel_rfl) rfl ?_
      refine Mx.XL_pure rfl rfl rfl (fun w' hw' => Do_move (v := .int .i64 g180) rfl) ?_
      refine Mx.XL_pure rfl rfl rfl (fun w' hw' => Do_move (v := .int .i64 g181) rfl) ?_
      obtain ⟨x213, e214, hF⟩ := bindO_some hF
      refine Mx.XL_pure rfl rfl rfl (fun w' hw' => Do_idxA (X := p0) u25 sz23 rfl rfl e214) ?_
      refine Mx.XL_read oS rfl rfl rfl (fun w' hw' => Do_load1 (v := .int .u16 x213) one23 rfl (Cells.ix (e := (Fl.int .u16)) (x := p0) (Blk.cells ((H.sees hw').item (i := 0) rfl)) e214)) ?_
      refine Mx.XL_pure rfl rfl rfl (fun w' hw' => Do_move (v := .int .i64 g181) rfl) ?_
      obtain ⟨x215, e216, hF⟩ := bindO_some hF
      refine Mx.XL_pure rfl rfl rfl (fun w' hw' => Do_idxA (X := p1) u25 sz23 rfl rfl e216) ?_
      refine Mx.XL_read oS rfl rfl rfl (fun w' hw' => Do_load1 (v := .int .u16 x215) one23 rfl (Cells.ix (e := (Fl.int .u16)) (x := p1) (Blk.cells ((H.sees hw').item (i := 1) rfl)) e216)) ?_
      obtain ⟨x217, e218, hF⟩ := letO_some hF
      refine Mx.XL_pure rfl rfl rfl (fun w' hw' => Do_xor (a := x213) (b := x215) rfl rfl e218) ?_
      have H219 := H
      obtain ⟨x220, e221, hF⟩ := bindO_some hF
      refine Mx.XL_fcall oS rfl rfl rfl (v := .int .i64 x220) (fun w' hw' => DoC_func en80 rfl) (fun w' hw' => call_read (F_math_bits_OnesCount16_w x217 _ e221 _ _ _ (Hd.fresh0 w'))) ?_
      have H := H219
      obtain ⟨x222, e223, hF⟩ := letO_some hF
      refine Mx.XL_pure rfl rfl rfl (fun w' hw' => Do_add (a := g180) (b := x220) rfl rfl e223) ?_
      refine Mx.XL_pure rfl rfl rfl (fun w' hw' => Do_assign (v := .int .i64 x222) rfl) ?_
      refine Mx.XL_nil fun w224 hS => ?_
      have H := H.sees hS
      have H := H211.rejoin H
      refine (blockQ_n (thenQ_n (hK209 _ _ ?_)))
      refine WP_region ?_
      obtain ⟨x225, e226, hF⟩ := letO_some hF
      refine RL_do rfl rfl (Do_add (a := g181) (b := 1) rfl rfl e226) ?_
      refine RL_do rfl rfl (Do_move (v := .int .i64 x225) rfl) ?_
      refine (RL_nil (thenQ_n (And.intro ?_ ?_)))
      · repeat' (first | with_reducible exact Fr_refl | refine Fr_upd rfl ?_ | refine Fr_over rfl rfl ?_)
      · exact ⟨(n187, x222, x225), (Sl_cons rfl (Sl_cons rfl Sl_nil)), ⟨H.pick [0, 1] (by decide), hF⟩, Nat.lt_succ_self _⟩
    · have hF := iteB_f c193 hF
      have hR := Option.some.inj hF
      subst hR
      refine (WP_exit (thenQ_x (thenQ_x (blockQ_eq (thenQ_n (And.intro ?_ ?_))))))
      · repeat' (first | with_reducible exact Fr_refl | refine Fr_upd rfl ?_ | refine Fr_over rfl rfl ?_)
      · exact ⟨(), (Sl_cons rfl Sl_nil), H.pick [] (by decide)⟩
  · rintro _ ρ w97 H
    have hF := hK98
    refine WP_seq_k fun K227 hK227 => ?_
    refine WP_region ?_
    refine RL_do rfl rfl (Do_move (v := .int .i64 g96) rfl) ?_
    refine RL_do rfl rfl (Do_assign (v := .int .i64 g96) rfl) ?_
    refine (RL_nil (thenQ_n (hK227 _ _ ?_)))
    have hR := Option.some.inj hF
    subst hR
    refine (WP_ret (post1 (v1 := .int .i64 g96) rfl rfl ?_))
    exact ⟨rfl, H.pick [] (by decide)⟩
end Go.Proofs.YtafgmocdnjdmoaaDoor.L
namespace Go.Proofs.YtafgmocdnjdmoaaDoor.L
open Go.RowKit Go.OB Go.Lf
/- orangebox/frame.data -/
set_option maxHeartbeats 4000000 in
theorem F_frame_data_w (p0 : Int) (r : Int) (hF : F_frame_data p0 = some r) (O S : List Nat) (w : World) (H : Hd O w w S []) :
    Calls Tryd.prog 85 ([.int .u16 p0] : List Value).toArray w fun e w' => e = .returned (.int .i64 r) ∧ Hd O w w' S [] := by
  unfold F_frame_data at hF
  refine calls_of_WP 6 Tryd.func85 rfl rfl rfl ?_
  refine WP_seq_k fun K1 hK1 => ?_
  refine WP_region ?_
  refine RL_do rfl rfl (Do_assign (v := .int .i64 0) rfl) ?_
  refine (RL_nil (thenQ_n (hK1 _ _ ?_)))
  refine WP_seq_k fun K2 hK2 => ?_
  refine WP_region ?_
  refine RL_do rfl rfl (Do_move (v := .int .u16 p0) rfl) ?_
  obtain ⟨x3, e4, hF⟩ := letO_some hF
  refine RL_do rfl rfl (Do_and (a := p0) (b := 2047) rfl rfl e4) ?_
  obtain ⟨x5, e6, hF⟩ := letO_some hF
  refine RL_do rfl rfl (Do_conv u23 u3 rfl e6) ?_
  refine RL_do rfl rfl (Do_assign (v := .int .i64 x5) rfl) ?_
  refine (RL_nil (thenQ_n (hK2 _ _ ?_)))
  have hR := Option.some.inj hF
  subst hR
  refine (WP_ret (post1 (v1 := .int .i64 x5) rfl rfl ?_))
  exact ⟨rfl, H.pick [] (by decide)⟩
end Go.Proofs.YtafgmocdnjdmoaaDoor.L
namespace Go.Proofs.YtafgmocdnjdmoaaDoor.L
open Go.RowKit Go.OB Go.Lf
/- orangebox/frame.numberOf -/
set_option maxHeartbeats 4000000 in
theorem F_frame_numberOf_w (p0 : Option (Arr 64 Int)) (v1 : Option Addr) (r : Int) (hF : F_frame_numberOf p0 = some r) (O S : List Nat) (w : World) (H : Hd O w w S [.fz (.pt (Rp.fl (Fl.arr 64 (Fl.int .u16))) v1 p0)]) :
    Calls Tryd.prog 91 ([.pointer v1] : List Value).toArray w fun e w' => e = .returned (.int .i64 r) ∧ Hd O w w' S [] := by
  unfold F_frame_numberOf at hF
  refine calls_of_WP 15 Tryd.func91 rfl rfl rfl ?_
  refine WP_seq_k fun K3 hK3 => ?_
  refine WP_region ?_
  refine RL_do rfl rfl (Do_assign (v := .int .i64 0) rfl) ?_
  refine (RL_nil (thenQ_n (hK3 _ _ ?_)))
  refine WP_seq_k fun K4 hK4 => ?_
  have H5 := H
  have H := H.rebase
  have H6 := H
  refine WP_mix0 H [0, 1, 2, 3, 4, 5, 6, 7, 8, 9, 10, 11, 12] [.pure, .pure, .pure, .read, .fcall, .pure, .pure, .pure, .read, .fcall, .pure, .pure, .pure] mixed (by kernel_rfl) (by kernel_rfl) (by kernel_rfl) rfl ?_
  refine Mx.XL_pure rfl rfl rfl (fun w' hw' => Do_move (v := .pointer v1) rfl) ?_
  obtain ⟨x7, e8, hF⟩ := bindO_some hF
  obtain ⟨b9, o10, cs11, q12, h13, h14, h15, h16⟩ := ptf_some ((H.item (i := 0) rfl) : PtF _ _ _ _ _) e8
  obtain rfl : cs11 = (Fl.arr 64 (Fl.int .u16)).f x7 := h15
  have H := H.fz (.at b9 o10 _) ⟨h13, h14, h16⟩
  refine Mx.XL_pure rfl rfl rfl (fun w' hw' => Do_nilCheck (ad := ⟨b9, o10, none⟩) (congrArg Value.pointer q12)) ?_
  obtain ⟨x18, e19, hF⟩ := bindO_some hF
  refine Mx.XL_pure rfl rfl rfl (fun w' hw' => Do_idxA (X := x7) u25 sz23 rfl rfl e19) ?_
  refine Mx.XL_read oS rfl rfl rfl (fun w' hw' => Do_load1 (v := .int .u16 x18) one23 rfl (Cells.ix (e := (Fl.int .u16)) (x := x7) ((H.sees hw').item (i := 1) rfl).2.2 e19)) ?_
  have H20 := H
  obtain ⟨x21, e22, hF⟩ := bindO_some hF
  refine Mx.XL_fcall oS rfl rfl rfl (v := .int .i64 x21) (fun w' hw' => DoC_func en85 rfl) (fun w' hw' => call_read (F_frame_data_w x18 _ e22 _ _ _ (Hd.fresh0 w'))) ?_
  have H := H20
  refine Mx.XL_pure rfl rfl rfl (fun w' hw' => Do_move (v := .pointer v1) rfl) ?_
  obtain ⟨x23, e24, hF⟩ := bindO_some hF
  obtain ⟨b25, o26, cs27, q28, h29, h30, h31, h32⟩ := ptf_some ((H.item (i := 0) rfl) : PtF _ _ _ _ _) e24
  obtain rfl : cs27 = (Fl.arr 64 (Fl.int .u16)).f x23 := h31
  have H := H.fz (.at b25 o26 _) ⟨h29, h30, h32⟩
  refine Mx.XL_pure rfl rfl rfl (fun w' hw' => Do_nilCheck (ad := ⟨b25, o26, none⟩) (congrArg Value.pointer q28)) ?_
  obtain ⟨x34, e35, hF⟩ := bindO_some hF
  refine Mx.XL_pure rfl rfl rfl (fun w' hw' => Do_idxA (X := x23) u25 sz23 rfl rfl e35) ?_
  refine Mx.XL_read oS rfl rfl rfl (fun w' hw' => Do_load1 (v := .int .u16 x34) one23 rfl (Cells.ix (e := (Fl.int .u16)) (x := x23) ((H.sees hw').item (i := 2) rfl).2.2 e35)) ?_
  have H36 := H
  obtain ⟨x37, e38, hF⟩ := bindO_some hF
  refine Mx.XL_fcall oS rfl rfl rfl (v := .int .i64 x37) (fun w' hw' => DoC_func en85 rfl) (fun w' hw' => call_read (F_frame_data_w x34 _ e38 _ _ _ (Hd.fresh0 w'))) ?_
  have H := H36
  obtain ⟨x39, e40, hF⟩ := bindO_some hF
  refine Mx.XL_pure rfl rfl rfl (fun w' hw' => Do_shl' (j := x37) (q := 11) rfl rfl e40) ?_
  obtain ⟨x41, e42, hF⟩ := letO_some hF
  refine Mx.XL_pure rfl rfl rfl (fun w' hw' => Do_or (a := x21) (b := x39) rfl rfl e42) ?_
  refine Mx.XL_pure rfl rfl rfl (fun w' hw' => Do_assign (v := .int .i64 x41) rfl) ?_
  refine Mx.XL_nil fun w43 hS => ?_
  have H := H.sees hS
  have H := H5.rejoin H
  refine (thenQ_n (hK4 _ _ ?_))
  have hR := Option.some.inj hF
  subst hR
  refine (WP_ret (post1 (v1 := .int .i64 x41) rfl rfl ?_))
  exact ⟨rfl, H.pick [] (by decide)⟩
end Go.Proofs.YtafgmocdnjdmoaaDoor.L
namespace Go.Proofs.YtafgmocdnjdmoaaDoor.L
open Go.RowKit Go.OB Go.Lf
/- orangebox/frame.odd -/
set_option maxHeartbeats 4000000 in
theorem F_frame_odd_w (p0 : Int) (r : Bool) (hF : F_frame_odd p0 = some r) (O S : List Nat) (w : World) (H : Hd O w w S []) :
    Calls Tryd.prog 86 ([.int .u16 p0] : List Value).toArray w fun e w' => e = .returned (.bool r) ∧ Hd O w w' S [] := by
  unfold F_frame_odd at hF
  refine calls_of_WP 11 Tryd.func86 rfl rfl rfl ?_
  refine WP_seq_k fun K1 hK1 => ?_
  refine WP_region ?_
  refine RL_do rfl rfl (Do_assign (v := .bool false) rfl) ?_
  refine (RL_nil (thenQ_n (hK1 _ _ ?_)))
  obtain ⟨g14, hF, hK16⟩ := bindO_some hF
  refine WP_seqS [2, 3, 4, 5, 6, 7, 8, 9, 10] (fun (g : Unit) => [(2, .bool g14)]) (fun g wl => Hd O w wl S []) ?_ ?_
  · skip
    refine WP_region ?_
    refine RL_do rfl rfl (Do_move (v := .int .u16 p0) rfl) ?_
    obtain ⟨x17, e18, hF⟩ := letO_some hF
    refine RL_do rfl rfl (Do_as (Do_leq (a := p0) (b := 4095) rfl rfl) (congrArg Value.bool e18)) ?_
    refine RL_splitb (b := x17) rfl rfl rfl (fun c19 => ?_) (fun c19 => ?_)
    · have hF := iteB_t c19 hF
      refine RL_do rfl rfl (Do_move (v := .int .u16 p0) rfl) ?_
      have H20 := H
      obtain ⟨x21, e22, hF⟩ := bindO_some hF
      refine RL_call rfl rfl (DoC_func en80 rfl) (F_math_bits_OnesCount16_w p0 _ e22 _ _ _ (H.enter [] [] (by decide) rfl)) ?_
      rintro _ w23 ⟨rfl, G24⟩
      have H := H20.step (G24.only : Only [] _ _)
      refine ⟨_, rfl, ?_⟩
      obtain ⟨x25, e26, hF⟩ := bindO_some hF
      refine RL_do rfl rfl (Do_rem' (j := x21) (q := 2) rfl rfl e26) ?_
      obtain ⟨x27, e28, hF⟩ := letO_some hF
      refine RL_do rfl rfl (Do_as (Do_eql (a := x25) (b := 1) rfl rfl) (congrArg Value.bool e28)) ?_
      refine RL_do rfl rfl (Do_pick_t (v := .bool x27) rfl rfl) ?_
      refine RL_do rfl rfl (Do_assign (v := .bool x27) rfl) ?_
      have hR := Option.some.inj hF
      subst hR
      refine (RL_nil (thenQ_n (And.intro ?_ ?_)))
      · repeat' (first | with_reducible exact Fr_refl | refine Fr_upd rfl ?_ | refine Fr_over rfl rfl ?_)
      · exact ⟨(), (Sl_cons rfl Sl_nil), H.pick [] (by decide)⟩
    · have hF := iteB_f c19 hF
      refine RL_off rfl rfl ?_
      refine RL_off rfl rfl ?_
      refine RL_off rfl rfl ?_
      refine RL_off rfl rfl ?_
      refine RL_do rfl rfl (Do_pick_f (v := .bool false) rfl rfl) ?_
      refine RL_do rfl rfl (Do_assign (v := .bool false) rfl) ?_
      have hR := Option.some.inj hF
      subst hR
      refine (RL_nil (thenQ_n (And.intro ?_ ?_)))
      · repeat' (first | with_reducible exact Fr_refl | refine Fr_upd rfl ?_ | refine Fr_over rfl rfl ?_)
      · exact ⟨(), (Sl_cons rfl Sl_nil), H.pick [] (by decide)⟩
  · rintro _ ρ w15 H
    have hF := hK16
    have hR := Option.some.inj hF
    subst hR
    refine (WP_ret (post1 (v1 := .bool g14) rfl rfl ?_))
    exact ⟨rfl, H.pick [] (by decide)⟩
end Go.Proofs.YtafgmocdnjdmoaaDoor.L
namespace Go.Proofs.YtafgmocdnjdmoaaDoor.L
open Go.RowKit Go.OB Go.Lf
/- orangebox/frame.sumOf -/
set_option maxHeartbeats 4000000 in
theorem F_frame_sumOf_w (p0 : Option (Arr 64 Int)) (v1 : Option Addr) (r : Int) (hF : F_frame_sumOf p0 = some r) (O S : List Nat) (w : World) (H : Hd O w w S [.fz (.pt (Rp.fl (Fl.arr 64 (Fl.int .u16))) v1 p0)]) :
    Calls Tryd.prog 92 ([.pointer v1] : List Value).toArray w fun e w' => e = .returned (.int .i64 r) ∧ Hd O w w' S [] := by
  unfold F_frame_sumOf at hF
  refine calls_of_WP 19 Tryd.func92 rfl rfl rfl ?_
  refine WP_seq_k fun K3 hK3 => ?_
  refine WP_region ?_
  refine RL_do rfl rfl (Do_assign (v := .int .i64 0) rfl) ?_
  refine (RL_nil (thenQ_n (hK3 _ _ ?_)))
  refine WP_seq_k fun K4 hK4 => ?_
  refine WP_region ?_
  refine RL_do rfl rfl (Do_assign (v := .int .i64 0) rfl) ?_
  refine (RL_nil (thenQ_n (hK4 _ _ ?_)))
  obtain ⟨g124, hF, hK126⟩ := bindO_some hF
  refine WP_seqS [3, 4, 5, 6, 7, 8, 9, 10, 11, 12, 13, 14, 15, 16, 17] (fun (g : Unit) => [(3, .int .i64 g124)]) (fun g wl => Hd O w wl S []) ?_ ?_
  · skip
    refine WP_seq_k fun K127 hK127 => ?_
    refine WP_region ?_
    refine RL_do rfl rfl (Do_move (v := .int .i64 0) rfl) ?_
    refine (RL_nil (thenQ_n (hK127 _ _ ?_)))
    refine WP_block ?_
    unfold F_frame_sumOf_L1 at hF
    obtain ⟨B242, n243, eB244, hF⟩ := loopO_some hF
    refine WP_loopS [3, 4, 5, 6, 7, 8, 9, 10, 11, 12, 13, 14, 15, 16, 17] (fun (g : Nat × Int × Int) => [(3, .int .i64 g.2.1), (5, .int .i64 g.2.2)]) (fun g wl => Hd O w wl S [.fz (.pt (Rp.fl (Fl.arr 64 (Fl.int .u16))) v1 p0)] ∧ loopN B242 g.1 (g.2.1, g.2.2) = some g124) (fun g => g.1) (n243, 0, 0) (Sl_cons rfl (Sl_cons rfl Sl_nil)) ⟨H.pick [0] (by decide), hF⟩ ?_
    clear H hF
    rintro ⟨n243, g240, g241⟩ ρ w246 ⟨H, hF⟩
    obtain ⟨n247, rfl, hF⟩ := loopN_pos hF
    have hF := loop_body eB244 hF
    refine WP_seq_k fun K248 hK248 => ?_
    refine WP_region ?_
    obtain ⟨x249, e250, hF⟩ := letO_some hF
    refine RL_do rfl rfl (Do_as (Do_lss (a := g241) (b := 60) rfl rfl) (congrArg Value.bool e250)) ?_
    refine (RL_nil (thenQ_n (hK248 _ _ ?_)))
    refine WP_seq_k fun K252 hK252 => ?_
    refine WP_ifb (b := x249) rfl (fun c253 => ?_) (fun c253 => ?_)
    · have hF := iteB_t c253 hF
      refine (WP_skip (thenQ_n (hK252 _ _ ?_)))
      refine WP_seq_k fun K277 hK277 => ?_
      refine WP_block ?_
      refine WP_seq_k fun K278 hK278 => ?_
      refine WP_region ?_
      refine RL_do rfl rfl (Do_move (v := .int .i64 g241) rfl) ?_
      refine RL_do rfl rfl (Do_assign (v := .int .i64 g241) rfl) ?_
      refine (RL_nil (thenQ_n (hK278 _ _ ?_)))
      refine WP_region ?_
      refine RL_do rfl rfl (Do_move (v := .int .i64 g240) rfl) ?_
      refine RL_do rfl rfl (Do_move (v := .pointer v1) rfl) ?_
      refine RL_do rfl rfl (Do_move (v := .int .i64 g241) rfl) ?_
      obtain ⟨x279, e280, hF⟩ := letO_some hF
      refine RL_do rfl rfl (Do_add (a := g241) (b := 1) rfl rfl e280) ?_
      obtain ⟨x281, e282, hF⟩ := bindO_some hF
      obtain ⟨b283, o284, cs285, q286, h287, h288, h289, h290⟩ := ptf_some ((H.item (i := 0) rfl) : PtF _ _ _ _ _) e282
      obtain rfl : cs285 = (Fl.arr 64 (Fl.int .u16)).f x281 := h289
      have H := H.fz (.at b283 o284 _) ⟨h287, h288, h290⟩
      refine RL_do rfl rfl (Do_nilCheck (ad := ⟨b283, o284, none⟩) (congrArg Value.pointer q286)) ?_
      obtain ⟨x292, e293, hF⟩ := bindO_some hF
      refine RL_do rfl rfl (Do_idxA (X := x281) u25 sz23 rfl rfl e293) ?_
      refine RL_do rfl rfl (Do_load1 (v := .int .u16 x292) one23 rfl (Cells.ix (e := (Fl.int .u16)) (x := x281) (H.item (i := 1) rfl).2.2 e293)) ?_
      have H294 := H
      obtain ⟨x295, e296, hF⟩ := bindO_some hF
      refine RL_call rfl rfl (DoC_func en85 rfl) (F_frame_data_w x292 _ e296 _ _ _ (H.enter [] [] (by decide) rfl)) ?_
      rintro _ w297 ⟨rfl, G298⟩
      have H := H294.step (G298.only : Only [] _ _)
      refine ⟨_, rfl, ?_⟩
      obtain ⟨x299, e300, hF⟩ := letO_some hF
      refine RL_do rfl rfl (Do_xor (a := g240) (b := x295) rfl rfl e300) ?_
      refine RL_do rfl rfl (Do_assign (v := .int .i64 x299) rfl) ?_
      refine (RL_nil (blockQ_n (thenQ_n (hK277 _ _ ?_))))
      refine WP_region ?_
      obtain ⟨x301, e302, hF⟩ := letO_some hF
      refine RL_do rfl rfl (Do_add (a := g241) (b := 1) rfl rfl e302) ?_
      refine RL_do rfl rfl (Do_move (v := .int .i64 x301) rfl) ?_
      refine (RL_nil (thenQ_n (And.intro ?_ ?_)))
      · repeat' (first | with_reducible exact Fr_refl | refine Fr_upd rfl ?_ | refine Fr_over rfl rfl ?_)
      · exact ⟨(n247, x299, x301), (Sl_cons rfl (Sl_cons rfl Sl_nil)), ⟨H.pick [0] (by decide), hF⟩, Nat.lt_succ_self _⟩
    · have hF := iteB_f c253 hF
      have hR := Option.some.inj hF
      subst hR
      refine (WP_exit (thenQ_x (thenQ_x (blockQ_eq (thenQ_n (And.intro ?_ ?_))))))
      · repeat' (first | with_reducible exact Fr_refl | refine Fr_upd rfl ?_ | refine Fr_over rfl rfl ?_)
      · exact ⟨(), (Sl_cons rfl Sl_nil), H.pick [] (by decide)⟩
  · rintro _ ρ w125 H
    have hF := hK126
    refine WP_seq_k fun K303 hK303 => ?_
    refine WP_region ?_
    refine RL_do rfl rfl (Do_move (v := .int .i64 g124) rfl) ?_
    refine RL_do rfl rfl (Do_assign (v := .int .i64 g124) rfl) ?_
    refine (RL_nil (thenQ_n (hK303 _ _ ?_)))
    have hR := Option.some.inj hF
    subst hR
    refine (WP_ret (post1 (v1 := .int .i64 g124) rfl rfl ?_))
    exact ⟨rfl, H.pick [] (by decide)⟩
end Go.Proofs.YtafgmocdnjdmoaaDoor.L
namespace Go.Proofs.YtafgmocdnjdmoaaDoor.L
open Go.RowKit Go.OB Go.Lf
/- orangebox/frame.checkOf -/
set_option maxHeartbeats 4000000 in
theorem F_frame_checkOf_w (p0 : Option (Arr 64 Int)) (v1 : Option Addr) (r : Int) (hF : F_frame_checkOf p0 = some r) (O S : List Nat) (w : World) (H : Hd O w w S [.fz (.pt (Rp.fl (Fl.arr 64 (Fl.int .u16))) v1 p0)]) :
    Calls Tryd.prog 93 ([.pointer v1] : List Value).toArray w fun e w' => e = .returned (.int .i64 r) ∧ Hd O w w' S [] := by
  unfold F_frame_checkOf at hF
  refine calls_of_WP 35 Tryd.func93 rfl rfl rfl ?_
  refine WP_seq_k fun K3 hK3 => ?_
  refine WP_region ?_
  refine RL_do rfl rfl (Do_assign (v := .int .i64 0) rfl) ?_
  refine (RL_nil (thenQ_n (hK3 _ _ ?_)))
  refine WP_seq_k fun K4 hK4 => ?_
  refine WP_region ?_
  refine RL_do rfl rfl (Do_assign (v := .int .i64 0) rfl) ?_
  refine (RL_nil (thenQ_n (hK4 _ _ ?_)))
  obtain ⟨g252, hF, hK254⟩ := bindO_some hF
  refine WP_seqS [3, 4, 5, 6, 7, 8, 9, 10, 11, 12, 13, 14, 15, 16, 17, 18, 19, 20, 21, 22, 23, 24, 25, 26, 27, 28, 29, 30, 31, 32, 33] (fun (g : Unit) => [(3, .int .i64 g252)]) (fun g wl => Hd O w wl S []) ?_ ?_
  · skip
    refine WP_seq_k fun K255 hK255 => ?_
    refine WP_region ?_
    refine RL_do rfl rfl (Do_move (v := .int .i64 0) rfl) ?_
    refine (RL_nil (thenQ_n (hK255 _ _ ?_)))
    refine WP_block ?_
    unfold F_frame_checkOf_L1 at hF
    obtain ⟨B498, n499, eB500, hF⟩ := loopO_some hF
    refine WP_loopS [3, 4, 5, 6, 7, 8, 9, 10, 11, 12, 13, 14, 15, 16, 17, 18, 19, 20, 21, 22, 23, 24, 25, 26, 27, 28, 29, 30, 31, 32, 33] (fun (g : Nat × Int × Int) => [(3, .int .i64 g.2.1), (7, .int .i64 g.2.2)]) (fun g wl => Hd O w wl S [.fz (.pt (Rp.fl (Fl.arr 64 (Fl.int .u16))) v1 p0)] ∧ loopN B498 g.1 (g.2.1, g.2.2) = some g252) (fun g => g.1) (n499, 0, 0) (Sl_cons rfl (Sl_cons rfl Sl_nil)) ⟨H.pick [0] (by decide), hF⟩ ?_
    clear H hF
    rintro ⟨n499, g496, g497⟩ ρ w502 ⟨H, hF⟩
    obtain ⟨n503, rfl, hF⟩ := loopN_pos hF
    have hF := loop_body eB500 hF
    refine WP_seq_k fun K504 hK504 => ?_
    refine WP_region ?_
    obtain ⟨x505, e506, hF⟩ := letO_some hF
    refine RL_do rfl rfl (Do_as (Do_lss (a := g497) (b := 62) rfl rfl) (congrArg Value.bool e506)) ?_
    refine (RL_nil (thenQ_n (hK504 _ _ ?_)))
    refine WP_seq_k fun K508 hK508 => ?_
    refine WP_ifb (b := x505) rfl (fun c509 => ?_) (fun c509 => ?_)
    · have hF := iteB_t c509 hF
      refine (WP_skip (thenQ_n (hK508 _ _ ?_)))
      obtain ⟨g618, hF, hK620⟩ := bindO_some hF
      refine WP_seqS [3, 4, 5, 6, 9, 10, 11, 12, 13, 14, 15, 16, 17, 18, 19, 20, 21, 22, 23, 24, 25, 26, 27, 28, 29, 30, 31, 32] (fun (g : Unit) => [(3, .int .i64 g618)]) (fun g wl => Hd O w wl S [.fz (.pt (Rp.fl (Fl.arr 64 (Fl.int .u16))) v1 p0)]) ?_ ?_
      · skip
        refine WP_block ?_
        refine WP_seq_k fun K621 hK621 => ?_
        refine WP_region ?_
        refine RL_do rfl rfl (Do_move (v := .int .i64 g497) rfl) ?_
        refine RL_do rfl rfl (Do_assign (v := .int .i64 g497) rfl) ?_
        refine (RL_nil (thenQ_n (hK621 _ _ ?_)))
        refine WP_seq_k fun K622 hK622 => ?_
        refine WP_region ?_
        refine RL_do rfl rfl (Do_assign (v := .int .i64 11) rfl) ?_
        refine (RL_nil (thenQ_n (hK622 _ _ ?_)))
        refine WP_block ?_
        unfold F_frame_checkOf_L2 at hF
        obtain ⟨B725, n726, eB727, hF⟩ := loopO_some hF
        refine WP_loopS [3, 5, 6, 10, 11, 12, 13, 14, 15, 16, 17, 18, 19, 20, 21, 22, 23, 24, 25, 26, 27, 28, 29, 30, 31, 32] (fun (g : Nat × Int × Int) => [(3, .int .i64 g.2.1), (5, .int .i64 g.2.2)]) (fun g wl => Hd O w wl S [.fz (.pt (Rp.fl (Fl.arr 64 (Fl.int .u16))) v1 p0)] ∧ loopN B725 g.1 (g.2.1, g.2.2) = some g618) (fun g => g.1) (n726, g496, 11) (Sl_cons rfl (Sl_cons rfl Sl_nil)) ⟨H.pick [0] (by decide), hF⟩ ?_
        clear H hF
        rintro ⟨n726, g723, g724⟩ ρ w729 ⟨H, hF⟩
        obtain ⟨n730, rfl, hF⟩ := loopN_pos hF
        have hF := loop_body eB727 hF
        refine WP_seq_k fun K735 hK735 => ?_
        refine WP_seq_k fun K736 hK736 => ?_
        refine WP_region ?_
        refine RL_do rfl rfl (Do_move (v := .int .i64 g724) rfl) ?_
        obtain ⟨x737, e738, hF⟩ := letO_some hF
        refine RL_do rfl rfl (Do_as (Do_geq (a := g724) (b := 0) rfl rfl) (congrArg Value.bool e738)) ?_
        refine (RL_nil (thenQ_n (hK736 _ _ ?_)))
        refine WP_ifb (b := x737) rfl (fun c739 => ?_) (fun c739 => ?_)
        · have hF := iteB_t c739 hF
          refine (WP_skip (thenQ_n (hK735 _ _ ?_)))
          obtain ⟨g775, hF, hK777⟩ := bindO_some hF
          refine WP_seqS [3, 6, 14, 15, 16, 17, 18, 19, 20, 21, 22, 23, 24, 25, 26, 27, 28, 29, 30, 31, 32] (fun (g : Unit) => [(3, .int .i64 g775)]) (fun g wl => Hd O w wl S [.fz (.pt (Rp.fl (Fl.arr 64 (Fl.int .u16))) v1 p0)]) ?_ ?_
          · skip
            refine WP_block ?_
            refine WP_seq_k fun K778 hK778 => ?_
            refine WP_region ?_
            refine RL_do rfl rfl (Do_move (v := .int .i64 g723) rfl) ?_
            obtain ⟨x779, e780, hF⟩ := letO_some hF
            refine RL_do rfl rfl (Do_and (a := g723) (b := 2097152) rfl rfl e780) ?_
            obtain ⟨x781, e782, hF⟩ := letO_some hF
            refine RL_do rfl rfl (Do_as (Do_neq (a := x779) (b := 0) rfl rfl) (congrArg Value.bool e782)) ?_
            refine RL_do rfl rfl (Do_assign (v := .bool x781) rfl) ?_
            refine (RL_nil (thenQ_n (hK778 _ _ ?_)))
            refine WP_seq_k fun K783 hK783 => ?_
            refine WP_region ?_
            refine RL_do rfl rfl (Do_move (v := .int .i64 g723) rfl) ?_
            obtain ⟨x784, e785, hF⟩ := bindO_some hF
            refine RL_do rfl rfl (Do_shl' (j := g723) (q := 1) rfl rfl e785) ?_
            obtain ⟨x786, e787, hF⟩ := letO_some hF
            refine RL_do rfl rfl (Do_and (a := x784) (b := 4194303) rfl rfl e787) ?_
            refine RL_do rfl rfl (Do_assign (v := .int .i64 x786) rfl) ?_
            refine (RL_nil (thenQ_n (hK783 _ _ ?_)))
            refine WP_seq_k fun K788 hK788 => ?_
            refine WP_region ?_
            refine RL_do rfl rfl (Do_move (v := .bool x781) rfl) ?_
            refine RL_do rfl rfl (Do_move (v := .pointer v1) rfl) ?_
            refine RL_do rfl rfl (Do_move (v := .int .i64 g497) rfl) ?_
            obtain ⟨x789, e790, hF⟩ := bindO_some hF
            obtain ⟨b791, o792, cs793, q794, h795, h796, h797, h798⟩ := ptf_some ((H.item (i := 0) rfl) : PtF _ _ _ _ _) e790
            obtain rfl : cs793 = (Fl.arr 64 (Fl.int .u16)).f x789 := h797
            have H := H.fz (.at b791 o792 _) ⟨h795, h796, h798⟩
            refine RL_do rfl rfl (Do_nilCheck (ad := ⟨b791, o792, none⟩) (congrArg Value.pointer q794)) ?_
            obtain ⟨x800, e801, hF⟩ := bindO_some hF
            refine RL_do rfl rfl (Do_idxA (X := x789) u25 sz23 rfl rfl e801) ?_
            refine RL_do rfl rfl (Do_load1 (v := .int .u16 x800) one23 rfl (Cells.ix (e := (Fl.int .u16)) (x := x789) (H.item (i := 1) rfl).2.2 e801)) ?_
            refine RL_do rfl rfl (Do_move (v := .int .i64 g724) rfl) ?_
            obtain ⟨x802, e803, hF⟩ := bindO_some hF
            refine RL_do rfl rfl (Do_shr' (j := x800) (q := g724) rfl rfl e803) ?_
            obtain ⟨x804, e805, hF⟩ := letO_some hF
            refine RL_do rfl rfl (Do_and (a := x802) (b := 1) rfl rfl e805) ?_
            obtain ⟨x806, e807, hF⟩ := letO_some hF
            refine RL_do rfl rfl (Do_as (Do_eql (a := x804) (b := 1) rfl rfl) (congrArg Value.bool e807)) ?_
            obtain ⟨x808, e809, hF⟩ := letO_some hF
            refine RL_do rfl rfl (Do_as (Do_neqb (p := x781) (q := x806) u4 rfl rfl) (congrArg Value.bool e809)) ?_
            refine (RL_nil (thenQ_n (hK788 _ _ ?_)))
            refine WP_ifb (b := x808) rfl (fun c810 => ?_) (fun c810 => ?_)
            · have hF := iteB_t c810 hF
              refine WP_region ?_
              refine RL_do rfl rfl (Do_move (v := .int .i64 x786) rfl) ?_
              obtain ⟨x811, e812, hF⟩ := letO_some hF
              refine RL_do rfl rfl (Do_xor (a := x786) (b := 2097167) rfl rfl e812) ?_
              refine RL_do rfl rfl (Do_assign (v := .int .i64 x811) rfl) ?_
              have hR := Option.some.inj hF
              subst hR
              refine (RL_nil (blockQ_n (thenQ_n (And.intro ?_ ?_))))
              · repeat' (first | with_reducible exact Fr_refl | refine Fr_upd rfl ?_ | refine Fr_over rfl rfl ?_)
              · exact ⟨(), (Sl_cons rfl Sl_nil), H.pick [0] (by decide)⟩
            · have hF := iteB_f c810 hF
              have hR := Option.some.inj hF
              subst hR
              refine (WP_skip (blockQ_n (thenQ_n (And.intro ?_ ?_))))
              · repeat' (first | with_reducible exact Fr_refl | refine Fr_upd rfl ?_ | refine Fr_over rfl rfl ?_)
              · exact ⟨(), (Sl_cons rfl Sl_nil), H.pick [0] (by decide)⟩
          · rintro _ ρ w776 H
            have hF := hK777
            refine WP_region ?_
            refine RL_do rfl rfl (Do_move (v := .int .i64 g724) rfl) ?_
            obtain ⟨x813, e814, hF⟩ := letO_some hF
            refine RL_do rfl rfl (Do_sub (a := g724) (b := 1) rfl rfl e814) ?_
            refine RL_do rfl rfl (Do_assign (v := .int .i64 x813) rfl) ?_
            refine (RL_nil (thenQ_n (And.intro ?_ ?_)))
            · repeat' (first | with_reducible exact Fr_refl | refine Fr_upd rfl ?_ | refine Fr_over rfl rfl ?_)
            · exact ⟨(n730, g775, x813), (Sl_cons rfl (Sl_cons rfl Sl_nil)), ⟨H.pick [0] (by decide), hF⟩, Nat.lt_succ_self _⟩
        · have hF := iteB_f c739 hF
          have hR := Option.some.inj hF
          subst hR
          refine (WP_exit (thenQ_x (thenQ_x (blockQ_eq (blockQ_n (thenQ_n (And.intro ?_ ?_)))))))
          · repeat' (first | with_reducible exact Fr_refl | refine Fr_upd rfl ?_ | refine Fr_over rfl rfl ?_)
          · exact ⟨(), (Sl_cons rfl Sl_nil), H.pick [0] (by decide)⟩
      · rintro _ ρ w619 H
        have hF := hK620
        refine WP_region ?_
        obtain ⟨x815, e816, hF⟩ := letO_some hF
        refine RL_do rfl rfl (Do_add (a := g497) (b := 1) rfl rfl e816) ?_
        refine RL_do rfl rfl (Do_move (v := .int .i64 x815) rfl) ?_
        refine (RL_nil (thenQ_n (And.intro ?_ ?_)))
        · repeat' (first | with_reducible exact Fr_refl | refine Fr_upd rfl ?_ | refine Fr_over rfl rfl ?_)
        · exact ⟨(n503, g618, x815), (Sl_cons rfl (Sl_cons rfl Sl_nil)), ⟨H.pick [0] (by decide), hF⟩, Nat.lt_succ_self _⟩
    · have hF := iteB_f c509 hF
      have hR := Option.some.inj hF
      subst hR
      refine (WP_exit (thenQ_x (thenQ_x (blockQ_eq (thenQ_n (And.intro ?_ ?_))))))
      · repeat' (first | with_reducible exact Fr_refl | refine Fr_upd rfl ?_ | refine Fr_over rfl rfl ?_)
      · exact ⟨(), (Sl_cons rfl Sl_nil), H.pick [] (by decide)⟩
  · rintro _ ρ w253 H
    have hF := hK254
    refine WP_seq_k fun K817 hK817 => ?_
    refine WP_region ?_
    refine RL_do rfl rfl (Do_move (v := .int .i64 g252) rfl) ?_
    refine RL_do rfl rfl (Do_assign (v := .int .i64 g252) rfl) ?_
    refine (RL_nil (thenQ_n (hK817 _ _ ?_)))
    have hR := Option.some.inj hF
    subst hR
    refine (WP_ret (post1 (v1 := .int .i64 g252) rfl rfl ?_))
    exact ⟨rfl, H.pick [] (by decide)⟩
end Go.Proofs.YtafgmocdnjdmoaaDoor.L
namespace Go.Proofs.YtafgmocdnjdmoaaDoor.L
open Go.RowKit Go.OB Go.Lf
/- orangebox/frame.Flaws -/
set_option maxHeartbeats 4000000 in
theorem F_frame_Flaws_w (p0 : Arr 64 Int) (r : (List Flaw)) (hF : F_frame_Flaws p0 = some r) (O S : List Nat) (w : World) (H : Hd O w w S [.fz (.at 0 0 ((Fl.arr 4 (Fl.int .u16)).f G_frame_syncs))]) :
    Calls Tryd.prog 34 ([.agg ((Fl.arr 64 (Fl.int .u16)).f p0).toArray] : List Value).toArray w fun e w' => ∃ u2, e = .returned (u2) ∧ Hd O w w' S [.own rFlaw u2 80 r] := by
  unfold F_frame_Flaws at hF
  refine calls_of_WP 73 Tryd.func34 rfl rfl rfl ?_
  refine WP_seq_k fun K3 hK3 => ?_
  refine WP_region ?_
  refine RL_ex rfl rfl (Lx_box (cs := (Fl.arr 64 (Fl.int .u16)).f p0) rfl H) ?_
  rintro _ w6 ⟨b4, rfl, H⟩
  refine RL_do rfl rfl (Do_assign (v := .slice none 0 0) rfl) ?_
  refine (RL_nil (thenQ_n (hK3 _ _ ?_)))
  refine WP_seq_k fun K7 hK7 => ?_
  refine WP_region ?_
  refine RL_do rfl rfl (Do_assign (v := .slice none 0 0) rfl) ?_
  refine (RL_nil (thenQ_n (hK7 _ _ ?_)))
  obtain ⟨g79, hF, hK82⟩ := bindO_some hF
  refine WP_seqS [3, 4, 5, 7, 8, 9, 10, 11, 12, 13, 14, 15, 16, 17, 18, 19] (fun (g : Value) => [(3, g)]) (fun g wl => Hd O w wl S [.own rFlaw g 80 g79, .fz (.at 0 0 ((Fl.arr 4 (Fl.int .u16)).f G_frame_syncs)), .blk b4 ((Fl.arr 64 (Fl.int .u16)).f p0) 25]) ?_ ?_
  · skip
    refine WP_seq_k fun K83 hK83 => ?_
    refine WP_region ?_
    refine RL_do rfl rfl (Do_loadF (e := (Fl.arr 64 (Fl.int .u16))) (a := p0) agg25 rfl sz25 (Blk.cells (H.item (i := 1) rfl))) ?_
    refine RL_do rfl rfl (Do_move (v := .int .i64 0) rfl) ?_
    refine (RL_nil (thenQ_n (hK83 _ _ ?_)))
    refine WP_block ?_
    have H := own_nil H rFlaw 80
    unfold F_frame_Flaws_L1 at hF
    obtain ⟨B151, n152, eB153, hF⟩ := loopO_some hF
    refine WP_loopS [3, 4, 5, 8, 9, 10, 11, 12, 13, 14, 15, 16, 17, 18, 19] (fun (g : Nat × (List Flaw) × Int × Value) => [(3, g.2.2.2), (8, .int .i64 g.2.2.1)]) (fun g wl => Hd O w wl S [.own rFlaw g.2.2.2 80 g.2.1, .fz (.at 0 0 ((Fl.arr 4 (Fl.int .u16)).f G_frame_syncs)), .blk b4 ((Fl.arr 64 (Fl.int .u16)).f p0) 25] ∧ loopN B151 g.1 (g.2.1, g.2.2.1) = some g79) (fun g => g.1) (n152, [], 0, .slice none 0 0) (Sl_cons rfl (Sl_cons rfl Sl_nil)) ⟨H.pick [2, 0, 1] (by decide), hF⟩ ?_
    clear H hF
    rintro ⟨n152, g147, g149, v148⟩ ρ w155 ⟨H, hF⟩
    obtain ⟨n156, rfl, hF⟩ := loopN_pos hF
    have hF := loop_body eB153 hF
    refine WP_seq_k fun K157 hK157 => ?_
    refine WP_region ?_
    obtain ⟨x158, e159, hF⟩ := letO_some hF
    refine RL_do rfl rfl (Do_as (Do_lss (a := g149) (b := 64) rfl rfl) (congrArg Value.bool e159)) ?_
    refine (RL_nil (thenQ_n (hK157 _ _ ?_)))
    refine WP_seq_k fun K161 hK161 => ?_
    refine WP_ifb (b := x158) rfl (fun c162 => ?_) (fun c162 => ?_)
    · have hF := iteB_t c162 hF
      refine (WP_skip (thenQ_n (hK161 _ _ ?_)))
      obtain ⟨g179, hF, hK182⟩ := bindO_some hF
      refine WP_seqS [3, 4, 5, 10, 11, 12, 13, 14, 15, 16, 17, 18] (fun (g : Value) => [(3, g)]) (fun g wl => Hd O w wl S [.own rFlaw g 80 g179, .fz (.at 0 0 ((Fl.arr 4 (Fl.int .u16)).f G_frame_syncs)), .blk b4 ((Fl.arr 64 (Fl.int .u16)).f p0) 25]) ?_ ?_
      · skip
        refine WP_block ?_
        refine WP_seq_k fun K183 hK183 => ?_
        refine WP_region ?_
        refine RL_do rfl rfl (Do_move (v := .int .i64 g149) rfl) ?_
        obtain ⟨x184, e185, hF⟩ := bindO_some hF
        refine RL_do rfl rfl (Do_indexA1 (e := (Fl.int .u16)) (X := p0) u25 one23 sz23 rfl rfl rfl e185 rfl) ?_
        refine RL_do rfl rfl (Do_assign (v := .int .i64 g149) rfl) ?_
        refine RL_do rfl rfl (Do_assign (v := .int .u16 x184) rfl) ?_
        refine (RL_nil (thenQ_n (hK183 _ _ ?_)))
        refine WP_seq_k fun K186 hK186 => ?_
        refine WP_region ?_
        refine RL_do rfl rfl (Do_move (v := .int .u16 x184) rfl) ?_
        obtain ⟨x187, e188, hF⟩ := letO_some hF
        refine RL_do rfl rfl (Do_as (Do_gtr (a := x184) (b := 4095) rfl rfl) (congrArg Value.bool e188)) ?_
        refine (RL_nil (thenQ_n (hK186 _ _ ?_)))
        refine WP_ifb (b := x187) rfl (fun c189 => ?_) (fun c189 => ?_)
        · have hF := iteB_t c189 hF
          refine WP_region ?_
          refine RL_do rfl rfl (Do_move (v := v148) rfl) ?_
          refine RL_do rfl rfl (Do_move (v := .int .i64 g149) rfl) ?_
          refine RL_do rfl rfl (Do_build (cs := [.int .i64 g149, .int .i64 5]) (bt80_0_1 _ _)) ?_
          obtain ⟨x190, e191, hF⟩ := letO_some hF
          subst e191
          refine RL_ex rfl rfl (Lx_bs (r := rFlaw) (xl := [Flaw.mk g149 5]) (cs := [.int .i64 g149, .int .i64 5]) u50 el80 (by decide) (by decide) rfl (fillB_parts (vs := [.agg [.int .i64 g149, .int .i64 5].toArray]) (by decide) rfl rfl ⟨rfl, trivial⟩ rfl) H ⟨[.int .i64 g149, .int .i64 5], [], rfl, (rFlaw_mk (x := Flaw.mk g149 5)), rfl⟩) ?_
          rintro v193 w194 H
          obtain ⟨x195, e196, hF⟩ := bindO_some hF
          refine RL_ex rfl rfl (Lx_app H (i := 0) rfl u50 el80 rfl rfl (Sr.of_own (H.item (i := 3) rfl)) e196) ?_
          rintro v197 w198 H
          refine RL_do rfl rfl (Do_assign (v := v197) rfl) ?_
          have hR := Option.some.inj hF
          subst hR
          refine (RL_nil (blockQ_n (thenQ_n (And.intro ?_ ?_))))
          · repeat' (first | with_reducible exact Fr_refl | refine Fr_upd rfl ?_ | refine Fr_over rfl rfl ?_)
          · exact ⟨v197, (Sl_cons rfl Sl_nil), H.pick [0, 1, 2] (by decide)⟩
        · have hF := iteB_f c189 hF
          have hR := Option.some.inj hF
          subst hR
          refine (WP_skip (blockQ_n (thenQ_n (And.intro ?_ ?_))))
          · repeat' (first | with_reducible exact Fr_refl | refine Fr_upd rfl ?_ | refine Fr_over rfl rfl ?_)
          · exact ⟨v148, (Sl_cons rfl Sl_nil), H.pick [0, 1, 2] (by decide)⟩
      · rintro v180 ρ w181 H
        have hF := hK182
        refine WP_region ?_
        obtain ⟨x199, e200, hF⟩ := letO_some hF
        refine RL_do rfl rfl (Do_add (a := g149) (b := 1) rfl rfl e200) ?_
        refine RL_do rfl rfl (Do_move (v := .int .i64 x199) rfl) ?_
        refine (RL_nil (thenQ_n (And.intro ?_ ?_)))
        · repeat' (first | with_reducible exact Fr_refl | refine Fr_upd rfl ?_ | refine Fr_over rfl rfl ?_)
        · exact ⟨(n156, g179, x199, v180), (Sl_cons rfl (Sl_cons rfl Sl_nil)), ⟨H.pick [0, 1, 2] (by decide), hF⟩, Nat.lt_succ_self _⟩
    · have hF := iteB_f c162 hF
      have hR := Option.some.inj hF
      subst hR
      refine (WP_exit (thenQ_x (thenQ_x (blockQ_eq (thenQ_n (And.intro ?_ ?_))))))
      · repeat' (first | with_reducible exact Fr_refl | refine Fr_upd rfl ?_ | refine Fr_over rfl rfl ?_)
      · exact ⟨v148, (Sl_cons rfl Sl_nil), H.pick [0, 1, 2] (by decide)⟩
  · rintro v80 ρ w81 H
    have hF := hK82
    refine WP_seq_k fun K211 hK211 => ?_
    refine WP_seq_k fun K212 hK212 => ?_
    refine WP_region ?_
    refine RL_do rfl rfl (Do_move (v := v80) rfl) ?_
    obtain ⟨x213, e214, hF⟩ := letO_some hF
    obtain ⟨a215, c216, q217⟩ := Sr.len (Sr.of_own (H.item (i := 0) rfl))
    refine RL_do rfl rfl (Do_as (Do_len u50 q217) (congrArg (Value.int .i64) e214)) ?_
    obtain ⟨x218, e219, hF⟩ := letO_some hF
    refine RL_do rfl rfl (Do_as (Do_gtr (a := x213) (b := 0) rfl rfl) (congrArg Value.bool e219)) ?_
    refine (RL_nil (thenQ_n (hK212 _ _ ?_)))
    refine WP_ifb (b := x218) rfl (fun c220 => ?_) (fun c220 => ?_)
    · have hF := iteB_t c220 hF
      refine WP_seq_k fun K221 hK221 => ?_
      refine WP_region ?_
      refine RL_do rfl rfl (Do_move (v := v80) rfl) ?_
      refine RL_do rfl rfl (Do_assign (v := v80) rfl) ?_
      refine (RL_nil (thenQ_n (hK221 _ _ ?_)))
      have hR := Option.some.inj hF
      subst hR
      refine (WP_ret (thenQ_r (post1 (v1 := v80) rfl rfl ?_)))
      exact ⟨v80, rfl, H.pick [0] (by decide)⟩
    · have hF := iteB_f c220 hF
      refine (WP_skip (thenQ_n (hK211 _ _ ?_)))
      obtain ⟨g248, hF, hK251⟩ := bindO_some hF
      refine WP_seqS [3, 24, 25, 26, 27, 28, 29, 30, 31, 32, 33, 34] (fun (g : Value) => [(3, g)]) (fun g wl => Hd O w wl S [.own rFlaw g 80 g248, .fz (.at 0 0 ((Fl.arr 4 (Fl.int .u16)).f G_frame_syncs)), .blk b4 ((Fl.arr 64 (Fl.int .u16)).f p0) 25]) ?_ ?_
      · skip
        refine WP_seq_k fun K252 hK252 => ?_
        have H253 := H
        have H := H.rebase
        have H254 := H
        refine WP_mix0 H [0, 1, 2, 3, 4, 5, 6] [.pure, .read, .read, .pure, .pure, .read, .pure] mixed (by kernel_rfl) (by kernel_rfl) (by kernel_rfl) rfl ?_
        obtain ⟨x255, e256, hF⟩ := bindO_some hF
        refine Mx.XL_pure rfl rfl rfl (fun w' hw' => Do_idxA (X := p0) u25 sz23 rfl rfl e256) ?_
        refine Mx.XL_read oS rfl rfl rfl (fun w' hw' => Do_load1 (v := .int .u16 x255) one23 rfl (Cells.ix (e := (Fl.int .u16)) (x := p0) (Blk.cells ((H.sees hw').item (i := 2) rfl)) e256)) ?_
        have H257 := H
        have H := H.freezeB (i := 2) rfl
        have H := H.fz (.pt (Rp.fl (Fl.arr 64 (Fl.int .u16))) (some ⟨b4, 0, none⟩) (some p0)) ⟨_, _, _, rfl, (H.item (i := 2) rfl).1, (H.item (i := 2) rfl).2.1, rfl, (H.item (i := 2) rfl).2.2⟩
        obtain ⟨x259, e260, hF⟩ := bindO_some hF
        refine Mx.XL_call oS rfl rfl rfl (v := .int .i64 x259) (fun w' hw' => DoC_func en91 rfl) (fun w' hw' => call_read (F_frame_numberOf_w (some p0) (some ⟨b4, 0, none⟩) _ e260 _ _ _ ((H.sees hw').enter [] [3] (by decide) rfl))) ?_
        have H := H257
        obtain ⟨x261, e262, hF⟩ := bindO_some hF
        refine Mx.XL_pure rfl rfl rfl (fun w' hw' => Do_rem' (j := x259) (q := 4) rfl rfl e262) ?_
        obtain ⟨x263, e264, hF⟩ := bindO_some hF
        refine Mx.XL_pure rfl rfl rfl (fun w' hw' => Do_idxA (X := G_frame_syncs) u111 sz23 rfl rfl e264) ?_
        refine Mx.XL_read oS rfl rfl rfl (fun w' hw' => Do_load1 (v := .int .u16 x263) one23 rfl (Cells.ix (e := (Fl.int .u16)) (x := G_frame_syncs) ((H.sees hw').item (i := 1) rfl).2.2 e264)) ?_
        obtain ⟨x265, e266, hF⟩ := letO_some hF
        refine Mx.XL_pure rfl rfl rfl (fun w' hw' => Do_as (Do_neq (a := x255) (b := x263) rfl rfl) (congrArg Value.bool e266)) ?_
        refine Mx.XL_nil fun w267 hS => ?_
        have H := H.sees hS
        have H := H253.rejoin H
        refine (thenQ_n (hK252 _ _ ?_))
        refine WP_ifb (b := x265) rfl (fun c268 => ?_) (fun c268 => ?_)
        · have hF := iteB_t c268 hF
          refine WP_region ?_
          refine RL_do rfl rfl (Do_move (v := v80) rfl) ?_
          refine RL_do rfl rfl (Do_build (cs := [.int .i64 0, .int .i64 1]) (bt80_0_1 _ _)) ?_
          obtain ⟨x269, e270, hF⟩ := letO_some hF
          subst e270
          refine RL_ex rfl rfl (Lx_bs (r := rFlaw) (xl := [Flaw.mk 0 1]) (cs := [.int .i64 0, .int .i64 1]) u50 el80 (by decide) (by decide) rfl (fillB_parts (vs := [.agg [.int .i64 0, .int .i64 1].toArray]) (by decide) rfl rfl ⟨rfl, trivial⟩ rfl) H ⟨[.int .i64 0, .int .i64 1], [], rfl, (rFlaw_mk (x := Flaw.mk 0 1)), rfl⟩) ?_
          rintro v272 w273 H
          obtain ⟨x274, e275, hF⟩ := bindO_some hF
          refine RL_ex rfl rfl (Lx_app H (i := 0) rfl u50 el80 rfl rfl (Sr.of_own (H.item (i := 3) rfl)) e275) ?_
          rintro v276 w277 H
          refine RL_do rfl rfl (Do_assign (v := v276) rfl) ?_
          have hR := Option.some.inj hF
          subst hR
          refine (RL_nil (thenQ_n (And.intro ?_ ?_)))
          · repeat' (first | with_reducible exact Fr_refl | refine Fr_upd rfl ?_ | refine Fr_over rfl rfl ?_)
          · exact ⟨v276, (Sl_cons rfl Sl_nil), H.pick [0, 1, 2] (by decide)⟩
        · have hF := iteB_f c268 hF
          have hR := Option.some.inj hF
          subst hR
          refine (WP_skip (thenQ_n (And.intro ?_ ?_)))
          · repeat' (first | with_reducible exact Fr_refl | refine Fr_upd rfl ?_ | refine Fr_over rfl rfl ?_)
          · exact ⟨v80, (Sl_cons rfl Sl_nil), H.pick [0, 1, 2] (by decide)⟩
      · rintro v249 ρ w250 H
        have hF := hK251
        obtain ⟨g358, hF, hK361⟩ := bindO_some hF
        refine WP_seqS [3, 6, 35, 36, 37, 38, 39, 40, 41, 42, 43, 44, 45, 46, 47, 48] (fun (g : Value) => [(3, g)]) (fun g wl => Hd O w wl S [.own rFlaw g 80 g358, .fz (.at 0 0 ((Fl.arr 4 (Fl.int .u16)).f G_frame_syncs)), .blk b4 ((Fl.arr 64 (Fl.int .u16)).f p0) 25]) ?_ ?_
        · skip
          refine WP_seq_k fun K362 hK362 => ?_
          refine WP_region ?_
          refine RL_do rfl rfl (Do_assign (v := .int .i64 1) rfl) ?_
          refine (RL_nil (thenQ_n (hK362 _ _ ?_)))
          refine WP_block ?_
          unfold F_frame_Flaws_L2 at hF
          obtain ⟨B439, n440, eB441, hF⟩ := loopO_some hF
          refine WP_loopS [3, 6, 35, 36, 37, 38, 39, 40, 41, 42, 43, 44, 45, 46, 47, 48] (fun (g : Nat × (List Flaw) × Int × Value) => [(3, g.2.2.2), (6, .int .i64 g.2.2.1)]) (fun g wl => Hd O w wl S [.own rFlaw g.2.2.2 80 g.2.1, .fz (.at 0 0 ((Fl.arr 4 (Fl.int .u16)).f G_frame_syncs)), .blk b4 ((Fl.arr 64 (Fl.int .u16)).f p0) 25] ∧ loopN B439 g.1 (g.2.1, g.2.2.1) = some g358) (fun g => g.1) (n440, g248, 1, v249) (Sl_cons rfl (Sl_cons rfl Sl_nil)) ⟨H.pick [0, 1, 2] (by decide), hF⟩ ?_
          clear H hF
          rintro ⟨n440, g436, g438, v437⟩ ρ w443 ⟨H, hF⟩
          obtain ⟨n444, rfl, hF⟩ := loopN_pos hF
          have hF := loop_body eB441 hF
          refine WP_seq_k fun K449 hK449 => ?_
          refine WP_seq_k fun K450 hK450 => ?_
          refine WP_region ?_
          refine RL_do rfl rfl (Do_move (v := .int .i64 g438) rfl) ?_
          obtain ⟨x451, e452, hF⟩ := letO_some hF
          refine RL_do rfl rfl (Do_as (Do_lss (a := g438) (b := 64) rfl rfl) (congrArg Value.bool e452)) ?_
          refine (RL_nil (thenQ_n (hK450 _ _ ?_)))
          refine WP_ifb (b := x451) rfl (fun c453 => ?_) (fun c453 => ?_)
          · have hF := iteB_t c453 hF
            refine (WP_skip (thenQ_n (hK449 _ _ ?_)))
            obtain ⟨g474, hF, hK477⟩ := bindO_some hF
            refine WP_seqS [3, 39, 40, 41, 42, 43, 44, 45, 46, 47, 48] (fun (g : Value) => [(3, g)]) (fun g wl => Hd O w wl S [.own rFlaw g 80 g474, .fz (.at 0 0 ((Fl.arr 4 (Fl.int .u16)).f G_frame_syncs)), .blk b4 ((Fl.arr 64 (Fl.int .u16)).f p0) 25]) ?_ ?_
            · skip
              refine WP_block ?_
              refine WP_seq_k fun K478 hK478 => ?_
              refine WP_region ?_
              refine RL_do rfl rfl (Do_move (v := .int .i64 g438) rfl) ?_
              obtain ⟨x479, e480, hF⟩ := bindO_some hF
              refine RL_do rfl rfl (Do_idxA (X := p0) u25 sz23 rfl rfl e480) ?_
              refine RL_do rfl rfl (Do_load1 (v := .int .u16 x479) one23 rfl (Cells.ix (e := (Fl.int .u16)) (x := p0) (Blk.cells (H.item (i := 2) rfl)) e480)) ?_
              have H481 := H
              obtain ⟨x482, e483, hF⟩ := bindO_some hF
              refine RL_call rfl rfl (DoC_func en86 rfl) (F_frame_odd_w x479 _ e483 _ _ _ (H.enter [] [] (by decide) rfl)) ?_
              rintro _ w484 ⟨rfl, G485⟩
              have H := H481.step (G485.only : Only [] _ _)
              refine ⟨_, rfl, ?_⟩
              obtain ⟨x486, e487, hF⟩ := letO_some hF
              refine RL_do rfl rfl (Do_as (Do_not (p := x482) rfl) (congrArg Value.bool e487)) ?_
              refine (RL_nil (thenQ_n (hK478 _ _ ?_)))
              refine WP_ifb (b := x486) rfl (fun c488 => ?_) (fun c488 => ?_)
              · have hF := iteB_t c488 hF
                refine WP_region ?_
                refine RL_do rfl rfl (Do_move (v := v437) rfl) ?_
                refine RL_do rfl rfl (Do_move (v := .int .i64 g438) rfl) ?_
                refine RL_do rfl rfl (Do_build (cs := [.int .i64 g438, .int .i64 2]) (bt80_0_1 _ _)) ?_
                obtain ⟨x489, e490, hF⟩ := letO_some hF
                subst e490
                refine RL_ex rfl rfl (Lx_bs (r := rFlaw) (xl := [Flaw.mk g438 2]) (cs := [.int .i64 g438, .int .i64 2]) u50 el80 (by decide) (by decide) rfl (fillB_parts (vs := [.agg [.int .i64 g438, .int .i64 2].toArray]) (by decide) rfl rfl ⟨rfl, trivial⟩ rfl) H ⟨[.int .i64 g438, .int .i64 2], [], rfl, (rFlaw_mk (x := Flaw.mk g438 2)), rfl⟩) ?_
                rintro v492 w493 H
                obtain ⟨x494, e495, hF⟩ := bindO_some hF
                refine RL_ex rfl rfl (Lx_app H (i := 0) rfl u50 el80 rfl rfl (Sr.of_own (H.item (i := 3) rfl)) e495) ?_
                rintro v496 w497 H
                refine RL_do rfl rfl (Do_assign (v := v496) rfl) ?_
                have hR := Option.some.inj hF
                subst hR
                refine (RL_nil (blockQ_n (thenQ_n (And.intro ?_ ?_))))
                · repeat' (first | with_reducible exact Fr_refl | refine Fr_upd rfl ?_ | refine Fr_over rfl rfl ?_)
                · exact ⟨v496, (Sl_cons rfl Sl_nil), H.pick [0, 1, 2] (by decide)⟩
              · have hF := iteB_f c488 hF
                have hR := Option.some.inj hF
                subst hR
                refine (WP_skip (blockQ_n (thenQ_n (And.intro ?_ ?_))))
                · repeat' (first | with_reducible exact Fr_refl | refine Fr_upd rfl ?_ | refine Fr_over rfl rfl ?_)
                · exact ⟨v437, (Sl_cons rfl Sl_nil), H.pick [0, 1, 2] (by decide)⟩
            · rintro v475 ρ w476 H
              have hF := hK477
              refine WP_region ?_
              refine RL_do rfl rfl (Do_move (v := .int .i64 g438) rfl) ?_
              obtain ⟨x498, e499, hF⟩ := letO_some hF
              refine RL_do rfl rfl (Do_add (a := g438) (b := 1) rfl rfl e499) ?_
              refine RL_do rfl rfl (Do_assign (v := .int .i64 x498) rfl) ?_
              refine (RL_nil (thenQ_n (And.intro ?_ ?_)))
              · repeat' (first | with_reducible exact Fr_refl | refine Fr_upd rfl ?_ | refine Fr_over rfl rfl ?_)
              · exact ⟨(n444, g474, x498, v475), (Sl_cons rfl (Sl_cons rfl Sl_nil)), ⟨H.pick [0, 1, 2] (by decide), hF⟩, Nat.lt_succ_self _⟩
          · have hF := iteB_f c453 hF
            have hR := Option.some.inj hF
            subst hR
            refine (WP_exit (thenQ_x (thenQ_x (blockQ_eq (thenQ_n (And.intro ?_ ?_))))))
            · repeat' (first | with_reducible exact Fr_refl | refine Fr_upd rfl ?_ | refine Fr_over rfl rfl ?_)
            · exact ⟨v437, (Sl_cons rfl Sl_nil), H.pick [0, 1, 2] (by decide)⟩
        · rintro v359 ρ w360 H
          have hF := hK361
          obtain ⟨g526, hF, hK529⟩ := bindO_some hF
          refine WP_seqS [3, 49, 50, 51, 52, 53, 54, 55, 56, 57] (fun (g : Value) => [(3, g)]) (fun g wl => Hd O w wl S [.own rFlaw g 80 g526, .fz (.at 0 0 ((Fl.arr 4 (Fl.int .u16)).f G_frame_syncs)), .blk b4 ((Fl.arr 64 (Fl.int .u16)).f p0) 25]) ?_ ?_
          · skip
            refine WP_seq_k fun K530 hK530 => ?_
            refine WP_region ?_
            obtain ⟨x531, e532, hF⟩ := bindO_some hF
            refine RL_do rfl rfl (Do_idxA (X := p0) u25 sz23 rfl rfl e532) ?_
            refine RL_do rfl rfl (Do_load1 (v := .int .u16 x531) one23 rfl (Cells.ix (e := (Fl.int .u16)) (x := p0) (Blk.cells (H.item (i := 2) rfl)) e532)) ?_
            have H533 := H
            obtain ⟨x534, e535, hF⟩ := bindO_some hF
            refine RL_call rfl rfl (DoC_func en85 rfl) (F_frame_data_w x531 _ e535 _ _ _ (H.enter [] [] (by decide) rfl)) ?_
            rintro _ w536 ⟨rfl, G537⟩
            have H := H533.step (G537.only : Only [] _ _)
            refine ⟨_, rfl, ?_⟩
            have H538 := H
            have H := H.freezeB (i := 2) rfl
            have H := H.fz (.pt (Rp.fl (Fl.arr 64 (Fl.int .u16))) (some ⟨b4, 0, none⟩) (some p0)) ⟨_, _, _, rfl, (H.item (i := 2) rfl).1, (H.item (i := 2) rfl).2.1, rfl, (H.item (i := 2) rfl).2.2⟩
            obtain ⟨x540, e541, hF⟩ := bindO_some hF
            refine RL_call rfl rfl (DoC_func en92 rfl) (F_frame_sumOf_w (some p0) (some ⟨b4, 0, none⟩) _ e541 _ _ _ (H.enter [] [3] (by decide) rfl)) ?_
            rintro _ w542 ⟨rfl, G543⟩
            have H := H538.step (G543.only : Only [] _ _)
            refine ⟨_, rfl, ?_⟩
            obtain ⟨x544, e545, hF⟩ := letO_some hF
            refine RL_do rfl rfl (Do_as (Do_neq (a := x534) (b := x540) rfl rfl) (congrArg Value.bool e545)) ?_
            refine (RL_nil (thenQ_n (hK530 _ _ ?_)))
            refine WP_ifb (b := x544) rfl (fun c546 => ?_) (fun c546 => ?_)
            · have hF := iteB_t c546 hF
              refine WP_region ?_
              refine RL_do rfl rfl (Do_move (v := v359) rfl) ?_
              refine RL_do rfl rfl (Do_build (cs := [.int .i64 61, .int .i64 3]) (bt80_0_1 _ _)) ?_
              obtain ⟨x547, e548, hF⟩ := letO_some hF
              subst e548
              refine RL_ex rfl rfl (Lx_bs (r := rFlaw) (xl := [Flaw.mk 61 3]) (cs := [.int .i64 61, .int .i64 3]) u50 el80 (by decide) (by decide) rfl (fillB_parts (vs := [.agg [.int .i64 61, .int .i64 3].toArray]) (by decide) rfl rfl ⟨rfl, trivial⟩ rfl) H ⟨[.int .i64 61, .int .i64 3], [], rfl, (rFlaw_mk (x := Flaw.mk 61 3)), rfl⟩) ?_
              rintro v550 w551 H
              obtain ⟨x552, e553, hF⟩ := bindO_some hF
              refine RL_ex rfl rfl (Lx_app H (i := 0) rfl u50 el80 rfl rfl (Sr.of_own (H.item (i := 3) rfl)) e553) ?_
              rintro v554 w555 H
              refine RL_do rfl rfl (Do_assign (v := v554) rfl) ?_
              have hR := Option.some.inj hF
              subst hR
              refine (RL_nil (thenQ_n (And.intro ?_ ?_)))
              · repeat' (first | with_reducible exact Fr_refl | refine Fr_upd rfl ?_ | refine Fr_over rfl rfl ?_)
              · exact ⟨v554, (Sl_cons rfl Sl_nil), H.pick [0, 1, 2] (by decide)⟩
            · have hF := iteB_f c546 hF
              have hR := Option.some.inj hF
              subst hR
              refine (WP_skip (thenQ_n (And.intro ?_ ?_)))
              · repeat' (first | with_reducible exact Fr_refl | refine Fr_upd rfl ?_ | refine Fr_over rfl rfl ?_)
              · exact ⟨v359, (Sl_cons rfl Sl_nil), H.pick [0, 1, 2] (by decide)⟩
          · rintro v527 ρ w528 H
            have hF := hK529
            obtain ⟨g590, hF, hK593⟩ := bindO_some hF
            refine WP_seqS [3, 58, 59, 60, 61, 62, 63, 64, 65, 66, 67, 68, 69, 70, 71] (fun (g : Value) => [(3, g)]) (fun g wl => Hd O w wl S [.own rFlaw g 80 g590, .fz (.at 0 0 ((Fl.arr 4 (Fl.int .u16)).f G_frame_syncs))]) ?_ ?_
            · skip
              refine WP_seq_k fun K594 hK594 => ?_
              have H595 := H
              have H := H.rebase
              have H596 := H
              refine WP_mix0 H [0, 1, 2, 3, 4, 5, 6, 7, 8, 9] [.pure, .read, .fcall, .pure, .pure, .read, .fcall, .pure, .read, .pure] mixed (by kernel_rfl) (by kernel_rfl) (by kernel_rfl) rfl ?_
              obtain ⟨x597, e598, hF⟩ := bindO_some hF
              refine Mx.XL_pure rfl rfl rfl (fun w' hw' => Do_idxA (X := p0) u25 sz23 rfl rfl e598) ?_
              refine Mx.XL_read oS rfl rfl rfl (fun w' hw' => Do_load1 (v := .int .u16 x597) one23 rfl (Cells.ix (e := (Fl.int .u16)) (x := p0) (Blk.cells ((H.sees hw').item (i := 2) rfl)) e598)) ?_
              have H599 := H
              obtain ⟨x600, e601, hF⟩ := bindO_some hF
              refine Mx.XL_fcall oS rfl rfl rfl (v := .int .i64 x600) (fun w' hw' => DoC_func en85 rfl) (fun w' hw' => call_read (F_frame_data_w x597 _ e601 _ _ _ (Hd.fresh0 w'))) ?_
              have H := H599
              obtain ⟨x602, e603, hF⟩ := bindO_some hF
              refine Mx.XL_pure rfl rfl rfl (fun w' hw' => Do_shl' (j := x600) (q := 11) rfl rfl e603) ?_
              obtain ⟨x604, e605, hF⟩ := bindO_some hF
              refine Mx.XL_pure rfl rfl rfl (fun w' hw' => Do_idxA (X := p0) u25 sz23 rfl rfl e605) ?_
              refine Mx.XL_read oS rfl rfl rfl (fun w' hw' => Do_load1 (v := .int .u16 x604) one23 rfl (Cells.ix (e := (Fl.int .u16)) (x := p0) (Blk.cells ((H.sees hw').item (i := 2) rfl)) e605)) ?_
              have H606 := H
              obtain ⟨x607, e608, hF⟩ := bindO_some hF
              refine Mx.XL_fcall oS rfl rfl rfl (v := .int .i64 x607) (fun w' hw' => DoC_func en85 rfl) (fun w' hw' => call_read (F_frame_data_w x604 _ e608 _ _ _ (Hd.fresh0 w'))) ?_
              have H := H606
              obtain ⟨x609, e610, hF⟩ := letO_some hF
              refine Mx.XL_pure rfl rfl rfl (fun w' hw' => Do_or (a := x602) (b := x607) rfl rfl e610) ?_
              have H611 := H
              have H := H.freezeB (i := 2) rfl
              have H := H.fz (.pt (Rp.fl (Fl.arr 64 (Fl.int .u16))) (some ⟨b4, 0, none⟩) (some p0)) ⟨_, _, _, rfl, (H.item (i := 2) rfl).1, (H.item (i := 2) rfl).2.1, rfl, (H.item (i := 2) rfl).2.2⟩
              obtain ⟨x613, e614, hF⟩ := bindO_some hF
              refine Mx.XL_call oS rfl rfl rfl (v := .int .i64 x613) (fun w' hw' => DoC_func en93 rfl) (fun w' hw' => call_read (F_frame_checkOf_w (some p0) (some ⟨b4, 0, none⟩) _ e614 _ _ _ ((H.sees hw').enter [] [3] (by decide) rfl))) ?_
              have H := H611
              obtain ⟨x615, e616, hF⟩ := letO_some hF
              refine Mx.XL_pure rfl rfl rfl (fun w' hw' => Do_as (Do_neq (a := x609) (b := x613) rfl rfl) (congrArg Value.bool e616)) ?_
              refine Mx.XL_nil fun w617 hS => ?_
              have H := H.sees hS
              have H := H595.rejoin H
              refine (thenQ_n (hK594 _ _ ?_))
              refine WP_ifb (b := x615) rfl (fun c618 => ?_) (fun c618 => ?_)
              · have hF := iteB_t c618 hF
                refine WP_region ?_
                refine RL_do rfl rfl (Do_move (v := v527) rfl) ?_
                refine RL_do rfl rfl (Do_build (cs := [.int .i64 62, .int .i64 4]) (bt80_0_1 _ _)) ?_
                obtain ⟨x619, e620, hF⟩ := letO_some hF
                subst e620
                refine RL_ex rfl rfl (Lx_bs (r := rFlaw) (xl := [Flaw.mk 62 4]) (cs := [.int .i64 62, .int .i64 4]) u50 el80 (by decide) (by decide) rfl (fillB_parts (vs := [.agg [.int .i64 62, .int .i64 4].toArray]) (by decide) rfl rfl ⟨rfl, trivial⟩ rfl) H ⟨[.int .i64 62, .int .i64 4], [], rfl, (rFlaw_mk (x := Flaw.mk 62 4)), rfl⟩) ?_
                rintro v622 w623 H
                obtain ⟨x624, e625, hF⟩ := bindO_some hF
                refine RL_ex rfl rfl (Lx_app H (i := 0) rfl u50 el80 rfl rfl (Sr.of_own (H.item (i := 3) rfl)) e625) ?_
                rintro v626 w627 H
                refine RL_do rfl rfl (Do_assign (v := v626) rfl) ?_
                have hR := Option.some.inj hF
                subst hR
                refine (RL_nil (thenQ_n (And.intro ?_ ?_)))
                · repeat' (first | with_reducible exact Fr_refl | refine Fr_upd rfl ?_ | refine Fr_over rfl rfl ?_)
                · exact ⟨v626, (Sl_cons rfl Sl_nil), H.pick [0, 1] (by decide)⟩
              · have hF := iteB_f c618 hF
                have hR := Option.some.inj hF
                subst hR
                refine (WP_skip (thenQ_n (And.intro ?_ ?_)))
                · repeat' (first | with_reducible exact Fr_refl | refine Fr_upd rfl ?_ | refine Fr_over rfl rfl ?_)
                · exact ⟨v527, (Sl_cons rfl Sl_nil), H.pick [0, 1] (by decide)⟩
            · rintro v591 ρ w592 H
              have hF := hK593
              refine WP_seq_k fun K628 hK628 => ?_
              refine WP_region ?_
              refine RL_do rfl rfl (Do_move (v := v591) rfl) ?_
              refine RL_do rfl rfl (Do_assign (v := v591) rfl) ?_
              refine (RL_nil (thenQ_n (hK628 _ _ ?_)))
              have hR := Option.some.inj hF
              subst hR
              refine (WP_ret (post1 (v1 := v591) rfl rfl ?_))
              exact ⟨v591, rfl, H.pick [0] (by decide)⟩
end Go.Proofs.YtafgmocdnjdmoaaDoor.L
