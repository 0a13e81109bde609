/- Walks: what each function computes, for every argument; no condition but those that stand in the statements. -/
import Derived.Test.YtafgmocdnjdmoaaDoorRows
import Derived.Test.YtafgmocdnjdmoaaDoorAP
import Derived.Test.YtafgmocdnjdmoaaDoorXAw
namespace Go.Proofs.YtafgmocdnjdmoaaDoor.L
open Go.RowKit Go.OB Go.Lf
theorem u3 : Tryd.prog.underlying 3 = some (.int .i64) := Tryd.underlying3
theorem u4 : Tryd.prog.underlying 4 = some .bool := Tryd.underlying4
theorem u5 : Tryd.prog.underlying 5 = some (.int .u8) := Tryd.underlying5
theorem u9 : Tryd.prog.underlying 9 = some .string := Tryd.underlying9
theorem u22 : Tryd.prog.underlying 22 = some (.slice 5) := Tryd.underlying22
theorem u23 : Tryd.prog.underlying 23 = some (.int .u16) := Tryd.underlying23
theorem u25 : Tryd.prog.underlying 25 = some (.array 64 23) := Tryd.underlying25
theorem u46 : Tryd.prog.underlying 46 = some (.slice 3) := Tryd.underlying46
theorem u50 : Tryd.prog.underlying 50 = some (.slice 80) := Tryd.underlying50
theorem u56 : Tryd.prog.underlying 56 = some (.array 8 25) := Tryd.underlying56
theorem u70 : Tryd.prog.underlying 70 = some (.slice 4) := Tryd.underlying70
theorem u82 : Tryd.prog.underlying 82 = some (.array 8 5) := Tryd.underlying82
theorem u90 : Tryd.prog.underlying 90 = some (.slice 25) := Tryd.underlying90
theorem u111 : Tryd.prog.underlying 111 = some (.array 4 23) := Tryd.underlying111
theorem u116 : Tryd.prog.underlying 116 = some (.array 96 5) := Tryd.underlying116
theorem u120 : Tryd.prog.underlying 120 = some (.slice 23) := Tryd.underlying120
theorem u123 : Tryd.prog.underlying 123 = some (.int .u64) := Tryd.underlying123
theorem u124 : Tryd.prog.underlying 124 = some (.array 2 123) := Tryd.underlying124
theorem u125 : Tryd.prog.underlying 125 = some (.slice 123) := Tryd.underlying125
theorem u128 : Tryd.prog.underlying 128 = some (.array 4 3) := Tryd.underlying128
theorem sz3 : Sz Tryd.prog 3 1 := by unfold Sz; kernel_rfl
theorem sz4 : Sz Tryd.prog 4 1 := by unfold Sz; kernel_rfl
theorem sz5 : Sz Tryd.prog 5 1 := by unfold Sz; kernel_rfl
theorem sz23 : Sz Tryd.prog 23 1 := by unfold Sz; kernel_rfl
theorem sz25 : Sz Tryd.prog 25 64 := by unfold Sz; kernel_rfl
theorem sz56 : Sz Tryd.prog 56 512 := by unfold Sz; kernel_rfl
theorem sz80 : Sz Tryd.prog 80 2 := by unfold Sz; kernel_rfl
theorem sz82 : Sz Tryd.prog 82 8 := by unfold Sz; kernel_rfl
theorem sz116 : Sz Tryd.prog 116 96 := by unfold Sz; kernel_rfl
theorem sz123 : Sz Tryd.prog 123 1 := by unfold Sz; kernel_rfl
theorem one3 : OneC Tryd.prog 3 := by unfold OneC; kernel_rfl
theorem one4 : OneC Tryd.prog 4 := by unfold OneC; kernel_rfl
theorem one5 : OneC Tryd.prog 5 := by unfold OneC; kernel_rfl
theorem one23 : OneC Tryd.prog 23 := by unfold OneC; kernel_rfl
theorem one123 : OneC Tryd.prog 123 := by unfold OneC; kernel_rfl
theorem agg25 : Agg Tryd.prog 25 := by unfold Agg; kernel_rfl
theorem agg56 : Agg Tryd.prog 56 := by unfold Agg; kernel_rfl
theorem agg80 : Agg Tryd.prog 80 := by unfold Agg; kernel_rfl
theorem agg82 : Agg Tryd.prog 82 := by unfold Agg; kernel_rfl
theorem agg116 : Agg Tryd.prog 116 := by unfold Agg; kernel_rfl
theorem zero25 : Go.OB.Zero Tryd.prog 25 ((Fl.arr 64 (Fl.int .u16)).f (Arr.rep 64 0 : Arr 64 Int)) := by unfold Go.OB.Zero; kernel_rfl
theorem zero56 : Go.OB.Zero Tryd.prog 56 ((Fl.arr 8 (Fl.arr 64 (Fl.int .u16))).f (Arr.rep 8 (Arr.rep 64 0 : Arr 64 Int) : Arr 8 (Arr 64 Int))) := by unfold Go.OB.Zero; kernel_rfl
theorem zero82 : Go.OB.Zero Tryd.prog 82 ((Fl.arr 8 (Fl.int .u8)).f (Arr.rep 8 0 : Arr 8 Int)) := by unfold Go.OB.Zero; kernel_rfl
theorem zero116 : Go.OB.Zero Tryd.prog 116 ((Fl.arr 96 (Fl.int .u8)).f (Arr.rep 96 0 : Arr 96 Int)) := by unfold Go.OB.Zero; kernel_rfl
theorem el3 : El Tryd.prog 3 1 8 ([.int .i64 0]) := ⟨by kernel_rfl, by kernel_rfl, by kernel_rfl, by decide, by decide⟩
theorem el4 : El Tryd.prog 4 1 1 ([.bool false]) := ⟨by kernel_rfl, by kernel_rfl, by kernel_rfl, by decide, by decide⟩
theorem el5 : El Tryd.prog 5 1 1 ([.int .u8 0]) := ⟨by kernel_rfl, by kernel_rfl, by kernel_rfl, by decide, by decide⟩
theorem el25 : El Tryd.prog 25 64 128 ((Fl.arr 64 (Fl.int .u16)).f (Arr.rep 64 0 : Arr 64 Int)) := ⟨by kernel_rfl, by kernel_rfl, by kernel_rfl, by decide, by decide⟩
theorem el80 : El Tryd.prog 80 2 16 ([.int .i64 0, .int .i64 0]) := ⟨by kernel_rfl, by kernel_rfl, by kernel_rfl, by decide, by decide⟩
theorem el123 : El Tryd.prog 123 1 8 ([.int .u64 0]) := ⟨by kernel_rfl, by kernel_rfl, by kernel_rfl, by decide, by decide⟩
theorem bz25 : Tryd.prog.built 25 [] = some ((Fl.arr 64 (Fl.int .u16)).f (Arr.rep 64 0 : Arr 64 Int)).toArray := by kernel_rfl
theorem bt80_0_1 (a0 : Int) (a1 : Int) : Tryd.prog.built 80 [(0, .int .i64 a0), (1, .int .i64 a1)] = some [.int .i64 a0, .int .i64 a1].toArray := by kernel_rfl
theorem bt124_0_1 (a0 : Int) (a1 : Int) : Tryd.prog.built 124 [(0, .int .u64 a0), (1, .int .u64 a1)] = some [.int .u64 a0, .int .u64 a1].toArray := by kernel_rfl
theorem bt128_0_1_2_3 (a0 : Int) (a1 : Int) (a2 : Int) (a3 : Int) : Tryd.prog.built 128 [(0, .int .i64 a0), (1, .int .i64 a1), (2, .int .i64 a2), (3, .int .i64 a3)] = some [.int .i64 a0, .int .i64 a1, .int .i64 a2, .int .i64 a3].toArray := by kernel_rfl
theorem eqf23 : EqF Tryd.prog 23 (Fl.int .u16) 1 := EqF.int Tryd.underlying23
theorem eqf3 : EqF Tryd.prog 3 (Fl.int .i64) 1 := EqF.int Tryd.underlying3
theorem eqf5 : EqF Tryd.prog 5 (Fl.int .u8) 1 := EqF.int Tryd.underlying5
theorem eqf25 : EqF Tryd.prog 25 (Fl.arr 64 (Fl.int .u16)) 2 := EqF.arr Tryd.underlying25 (by unfold Sz; kernel_rfl) (by unfold Sz; kernel_rfl) eqf23
theorem eqf80 : EqF Tryd.prog 80 flFlaw 2 := EqF.struct (k := 1) (fun x y h => by cases x; cases y; simp_all) Tryd.underlying80 (by kernel_rfl) (by unfold Sz; kernel_rfl) ((EqFs.cons rfl (by decide) (eqf3.up (by decide)) (EqFs.one rfl (by decide) (eqf3.up (by decide)))))
theorem eqf82 : EqF Tryd.prog 82 (Fl.arr 8 (Fl.int .u8)) 2 := EqF.arr Tryd.underlying82 (by unfold Sz; kernel_rfl) (by unfold Sz; kernel_rfl) eqf5
theorem eqf116 : EqF Tryd.prog 116 (Fl.arr 96 (Fl.int .u8)) 2 := EqF.arr Tryd.underlying116 (by unfold Sz; kernel_rfl) (by unfold Sz; kernel_rfl) eqf5
theorem eqf56 : EqF Tryd.prog 56 (Fl.arr 8 (Fl.arr 64 (Fl.int .u16))) 3 := EqF.arr Tryd.underlying56 (by unfold Sz; kernel_rfl) (by unfold Sz; kernel_rfl) eqf25
theorem en19 : Enters Tryd.prog 19 := ⟨_, Tryd.func19, rfl, by kernel_rfl⟩
theorem en21 : Enters Tryd.prog 21 := ⟨_, Tryd.func21, rfl, by kernel_rfl⟩
theorem en22 : Enters Tryd.prog 22 := ⟨_, Tryd.func22, rfl, by kernel_rfl⟩
theorem en32 : Enters Tryd.prog 32 := ⟨_, Tryd.func32, rfl, by kernel_rfl⟩
theorem en33 : Enters Tryd.prog 33 := ⟨_, Tryd.func33, rfl, by kernel_rfl⟩
theorem en34 : Enters Tryd.prog 34 := ⟨_, Tryd.func34, rfl, by kernel_rfl⟩
theorem en37 : Enters Tryd.prog 37 := ⟨_, Tryd.func37, rfl, by kernel_rfl⟩
theorem en44 : Enters Tryd.prog 44 := ⟨_, Tryd.func44, rfl, by kernel_rfl⟩
theorem en45 : Enters Tryd.prog 45 := ⟨_, Tryd.func45, rfl, by kernel_rfl⟩
theorem en46 : Enters Tryd.prog 46 := ⟨_, Tryd.func46, rfl, by kernel_rfl⟩
theorem en47 : Enters Tryd.prog 47 := ⟨_, Tryd.func47, rfl, by kernel_rfl⟩
theorem en48 : Enters Tryd.prog 48 := ⟨_, Tryd.func48, rfl, by kernel_rfl⟩
theorem en49 : Enters Tryd.prog 49 := ⟨_, Tryd.func49, rfl, by kernel_rfl⟩
theorem en50 : Enters Tryd.prog 50 := ⟨_, Tryd.func50, rfl, by kernel_rfl⟩
theorem en51 : Enters Tryd.prog 51 := ⟨_, Tryd.func51, rfl, by kernel_rfl⟩
theorem en52 : Enters Tryd.prog 52 := ⟨_, Tryd.func52, rfl, by kernel_rfl⟩
theorem en53 : Enters Tryd.prog 53 := ⟨_, Tryd.func53, rfl, by kernel_rfl⟩
theorem en54 : Enters Tryd.prog 54 := ⟨_, Tryd.func54, rfl, by kernel_rfl⟩
theorem en55 : Enters Tryd.prog 55 := ⟨_, Tryd.func55, rfl, by kernel_rfl⟩
theorem en56 : Enters Tryd.prog 56 := ⟨_, Tryd.func56, rfl, by kernel_rfl⟩
theorem en57 : Enters Tryd.prog 57 := ⟨_, Tryd.func57, rfl, by kernel_rfl⟩
theorem en58 : Enters Tryd.prog 58 := ⟨_, Tryd.func58, rfl, by kernel_rfl⟩
theorem en59 : Enters Tryd.prog 59 := ⟨_, Tryd.func59, rfl, by kernel_rfl⟩
theorem en60 : Enters Tryd.prog 60 := ⟨_, Tryd.func60, rfl, by kernel_rfl⟩
theorem en61 : Enters Tryd.prog 61 := ⟨_, Tryd.func61, rfl, by kernel_rfl⟩
theorem en62 : Enters Tryd.prog 62 := ⟨_, Tryd.func62, rfl, by kernel_rfl⟩
theorem en63 : Enters Tryd.prog 63 := ⟨_, Tryd.func63, rfl, by kernel_rfl⟩
theorem en64 : Enters Tryd.prog 64 := ⟨_, Tryd.func64, rfl, by kernel_rfl⟩
theorem en65 : Enters Tryd.prog 65 := ⟨_, Tryd.func65, rfl, by kernel_rfl⟩
theorem en66 : Enters Tryd.prog 66 := ⟨_, Tryd.func66, rfl, by kernel_rfl⟩
theorem en67 : Enters Tryd.prog 67 := ⟨_, Tryd.func67, rfl, by kernel_rfl⟩
theorem en68 : Enters Tryd.prog 68 := ⟨_, Tryd.func68, rfl, by kernel_rfl⟩
theorem en69 : Enters Tryd.prog 69 := ⟨_, Tryd.func69, rfl, by kernel_rfl⟩
theorem en70 : Enters Tryd.prog 70 := ⟨_, Tryd.func70, rfl, by kernel_rfl⟩
theorem en71 : Enters Tryd.prog 71 := ⟨_, Tryd.func71, rfl, by kernel_rfl⟩
theorem en72 : Enters Tryd.prog 72 := ⟨_, Tryd.func72, rfl, by kernel_rfl⟩
theorem en73 : Enters Tryd.prog 73 := ⟨_, Tryd.func73, rfl, by kernel_rfl⟩
theorem en74 : Enters Tryd.prog 74 := ⟨_, Tryd.func74, rfl, by kernel_rfl⟩
theorem en77 : Enters Tryd.prog 77 := ⟨_, Tryd.func77, rfl, by kernel_rfl⟩
theorem en78 : Enters Tryd.prog 78 := ⟨_, Tryd.func78, rfl, by kernel_rfl⟩
theorem en80 : Enters Tryd.prog 80 := ⟨_, Tryd.func80, rfl, by kernel_rfl⟩
theorem en81 : Enters Tryd.prog 81 := ⟨_, Tryd.func81, rfl, by kernel_rfl⟩
theorem en83 : Enters Tryd.prog 83 := ⟨_, Tryd.func83, rfl, by kernel_rfl⟩
theorem en84 : Enters Tryd.prog 84 := ⟨_, Tryd.func84, rfl, by kernel_rfl⟩
theorem en85 : Enters Tryd.prog 85 := ⟨_, Tryd.func85, rfl, by kernel_rfl⟩
theorem en86 : Enters Tryd.prog 86 := ⟨_, Tryd.func86, rfl, by kernel_rfl⟩
theorem en87 : Enters Tryd.prog 87 := ⟨_, Tryd.func87, rfl, by kernel_rfl⟩
theorem en88 : Enters Tryd.prog 88 := ⟨_, Tryd.func88, rfl, by kernel_rfl⟩
theorem en89 : Enters Tryd.prog 89 := ⟨_, Tryd.func89, rfl, by kernel_rfl⟩
theorem en90 : Enters Tryd.prog 90 := ⟨_, Tryd.func90, rfl, by kernel_rfl⟩
theorem en91 : Enters Tryd.prog 91 := ⟨_, Tryd.func91, rfl, by kernel_rfl⟩
theorem en92 : Enters Tryd.prog 92 := ⟨_, Tryd.func92, rfl, by kernel_rfl⟩
theorem en93 : Enters Tryd.prog 93 := ⟨_, Tryd.func93, rfl, by kernel_rfl⟩
theorem en94 : Enters Tryd.prog 94 := ⟨_, Tryd.func94, rfl, by kernel_rfl⟩
theorem en95 : Enters Tryd.prog 95 := ⟨_, Tryd.func95, rfl, by kernel_rfl⟩
theorem en96 : Enters Tryd.prog 96 := ⟨_, Tryd.func96, rfl, by kernel_rfl⟩
theorem en97 : Enters Tryd.prog 97 := ⟨_, Tryd.func97, rfl, by kernel_rfl⟩
theorem en98 : Enters Tryd.prog 98 := ⟨_, Tryd.func98, rfl, by kernel_rfl⟩
theorem en99 : Enters Tryd.prog 99 := ⟨_, Tryd.func99, rfl, by kernel_rfl⟩
theorem en100 : Enters Tryd.prog 100 := ⟨_, Tryd.func100, rfl, by kernel_rfl⟩
theorem en101 : Enters Tryd.prog 101 := ⟨_, Tryd.func101, rfl, by kernel_rfl⟩
theorem en102 : Enters Tryd.prog 102 := ⟨_, Tryd.func102, rfl, by kernel_rfl⟩
theorem en103 : Enters Tryd.prog 103 := ⟨_, Tryd.func103, rfl, by kernel_rfl⟩
theorem en104 : Enters Tryd.prog 104 := ⟨_, Tryd.func104, rfl, by kernel_rfl⟩
theorem en105 : Enters Tryd.prog 105 := ⟨_, Tryd.func105, rfl, by kernel_rfl⟩
theorem en106 : Enters Tryd.prog 106 := ⟨_, Tryd.func106, rfl, by kernel_rfl⟩
theorem mixed : Tryd.prog.follows .mixedOrders = true := by kernel_rfl
end Go.Proofs.YtafgmocdnjdmoaaDoor.L
namespace Go.Proofs.YtafgmocdnjdmoaaDoor.L
open Go.RowKit Go.OB Go.Lf
/- orangebox/frame.wide -/
set_option maxHeartbeats 4000000 in
theorem F_frame_wide_w (p0 : Option (Arr 64 Int)) (v1 : Option Addr) (r : Bool) (hF : F_frame_wide p0 = some r) (O S : List Nat) (w : World) (H : Hd O w w S [.fz (.pt (Rp.fl (Fl.arr 64 (Fl.int .u16))) v1 p0)]) :
    Calls Tryd.prog 78 ([.pointer v1] : List Value).toArray w fun e w' => e = .returned (.bool r) ∧ Hd O w w' S [] := by
  unfold F_frame_wide at hF
  refine calls_of_WP 14 Tryd.func78 rfl rfl rfl ?_
  refine WP_seq_k fun K3 hK3 => ?_
  refine WP_region ?_
  refine RL_do rfl rfl (Do_assign (v := .bool false) rfl) ?_
  refine (RL_nil (thenQ_n (hK3 _ _ ?_)))
  obtain ⟨k107, ek108, hF⟩ := joinO_some hF
  refine WP_seqS [2, 3, 4, 5, 6, 7, 8, 9, 10, 11, 12, 13] (fun (g : Unit) => []) (fun g wl => Hd O w wl S [] ∧ k107 () = some r) ?_ ?_
  · skip
    refine WP_seq_k fun K109 hK109 => ?_
    refine WP_region ?_
    refine RL_do rfl rfl (Do_move (v := .int .i64 0) rfl) ?_
    refine (RL_nil (thenQ_n (hK109 _ _ ?_)))
    refine WP_block ?_
    unfold F_frame_wide_L1 at hF
    obtain ⟨B206, n207, eB208, hF⟩ := loopO_some hF
    refine WP_loopS [2, 3, 4, 5, 6, 7, 8, 9, 10, 11, 12, 13] (fun (g : Nat × Int) => [(4, .int .i64 g.2)]) (fun g wl => Hd O w wl S [.fz (.pt (Rp.fl (Fl.arr 64 (Fl.int .u16))) v1 p0)] ∧ loopN B206 g.1 g.2 = some r) (fun g => g.1) (n207, 0) (Sl_cons rfl Sl_nil) ⟨H.pick [0] (by decide), hF⟩ ?_
    clear H hF
    rintro ⟨n207, g205⟩ ρ w210 ⟨H, hF⟩
    obtain ⟨n211, rfl, hF⟩ := loopN_pos hF
    have hF := loop_body eB208 hF
    refine WP_seq_k fun K212 hK212 => ?_
    refine WP_region ?_
    obtain ⟨x213, e214, hF⟩ := letO_some hF
    refine RL_do rfl rfl (Do_as (Do_lss (a := g205) (b := 64) rfl rfl) (congrArg Value.bool e214)) ?_
    refine (RL_nil (thenQ_n (hK212 _ _ ?_)))
    refine WP_seq_k fun K216 hK216 => ?_
    refine WP_ifb (b := x213) rfl (fun c217 => ?_) (fun c217 => ?_)
    · have hF := iteB_t c217 hF
      refine (WP_skip (thenQ_n (hK216 _ _ ?_)))
      refine WP_seq_k fun K237 hK237 => ?_
      refine WP_block ?_
      refine WP_seq_k fun K238 hK238 => ?_
      refine WP_region ?_
      refine RL_do rfl rfl (Do_move (v := .int .i64 g205) rfl) ?_
      refine RL_do rfl rfl (Do_assign (v := .int .i64 g205) rfl) ?_
      refine (RL_nil (thenQ_n (hK238 _ _ ?_)))
      refine WP_seq_k fun K239 hK239 => ?_
      refine WP_region ?_
      refine RL_do rfl rfl (Do_move (v := .pointer v1) rfl) ?_
      refine RL_do rfl rfl (Do_move (v := .int .i64 g205) rfl) ?_
      obtain ⟨x240, e241, hF⟩ := bindO_some hF
      obtain ⟨b242, o243, cs244, q245, h246, h247, h248, h249⟩ := ptf_some ((H.item (i := 0) rfl) : PtF _ _ _ _ _) e241
      obtain rfl : cs244 = (Fl.arr 64 (Fl.int .u16)).f x240 := h248
      have H := H.fz (.at b242 o243 _) ⟨h246, h247, h249⟩
      refine RL_do rfl rfl (Do_nilCheck (ad := ⟨b242, o243, none⟩) (congrArg Value.pointer q245)) ?_
      obtain ⟨x251, e252, hF⟩ := bindO_some hF
      refine RL_do rfl rfl (Do_idxA (X := x240) u25 sz23 rfl rfl e252) ?_
      refine RL_do rfl rfl (Do_load1 (v := .int .u16 x251) one23 rfl (Cells.ix (e := (Fl.int .u16)) (x := x240) (H.item (i := 1) rfl).2.2 e252)) ?_
      obtain ⟨x253, e254, hF⟩ := letO_some hF
      refine RL_do rfl rfl (Do_as (Do_gtr (a := x251) (b := 4095) rfl rfl) (congrArg Value.bool e254)) ?_
      refine (RL_nil (thenQ_n (hK239 _ _ ?_)))
      refine WP_ifb (b := x253) rfl (fun c255 => ?_) (fun c255 => ?_)
      · have hF := iteB_t c255 hF
        refine WP_seq_k fun K256 hK256 => ?_
        refine WP_region ?_
        refine RL_do rfl rfl (Do_assign (v := .bool true) rfl) ?_
        refine (RL_nil (thenQ_n (hK256 _ _ ?_)))
        have hR := Option.some.inj hF
        subst hR
        refine (WP_ret (blockQ_r (thenQ_r (thenQ_r (blockQ_r (thenQ_r (post1 (v1 := .bool true) rfl rfl ?_)))))))
        exact ⟨rfl, H.pick [] (by decide)⟩
      · have hF := iteB_f c255 hF
        refine (WP_skip (blockQ_n (thenQ_n (hK237 _ _ ?_))))
        refine WP_region ?_
        obtain ⟨x257, e258, hF⟩ := letO_some hF
        refine RL_do rfl rfl (Do_add (a := g205) (b := 1) rfl rfl e258) ?_
        refine RL_do rfl rfl (Do_move (v := .int .i64 x257) rfl) ?_
        refine (RL_nil (thenQ_n (And.intro ?_ ?_)))
        · repeat' (first | with_reducible exact Fr_refl | refine Fr_upd rfl ?_ | refine Fr_over rfl rfl ?_)
        · exact ⟨(n211, x257), (Sl_cons rfl Sl_nil), ⟨H.pick [0] (by decide), hF⟩, Nat.lt_succ_self _⟩
    · have hF := iteB_f c217 hF
      refine (WP_exit (thenQ_x (thenQ_x (blockQ_eq (thenQ_n (And.intro ?_ ?_))))))
      · repeat' (first | with_reducible exact Fr_refl | refine Fr_upd rfl ?_ | refine Fr_over rfl rfl ?_)
      · exact ⟨(), Sl_nil, ⟨H.pick [] (by decide), hF⟩⟩
  · rintro _ ρ w106 ⟨H, hF⟩
    have hF := join_body ek108 hF
    refine WP_seq_k fun K259 hK259 => ?_
    refine WP_region ?_
    refine RL_do rfl rfl (Do_assign (v := .bool false) rfl) ?_
    refine (RL_nil (thenQ_n (hK259 _ _ ?_)))
    have hR := Option.some.inj hF
    subst hR
    refine (WP_ret (post1 (v1 := .bool false) rfl rfl ?_))
    exact ⟨rfl, H.pick [] (by decide)⟩
end Go.Proofs.YtafgmocdnjdmoaaDoor.L
namespace Go.Proofs.YtafgmocdnjdmoaaDoor.L
open Go.RowKit Go.OB Go.Lf
/- orangebox/frame.data -/
set_option maxHeartbeats 4000000 in
theorem F_frame_data_w (p0 : Int) (r : Int) (hF : F_frame_data p0 = some r) (O S : List Nat) (w : World) (H : Hd O w w S []) :
    Calls Tryd.prog 85 ([.int .u16 p0] : List Value).toArray w fun e w' => e = .returned (.int .i64 r) ∧ Hd O w w' S [] := by
  unfold F_frame_data at hF
  refine calls_of_WP 6 Tryd.func85 rfl rfl rfl ?_
  refine WP_seq_k fun K1 hK1 => ?_
  refine WP_region ?_
  refine RL_do rfl rfl (Do_assign (v := .int .i64 0) rfl) ?_
  refine (RL_nil (thenQ_n (hK1 _ _ ?_)))
  refine WP_seq_k fun K2 hK2 => ?_
  refine WP_region ?_
  refine RL_do rfl rfl (Do_move (v := .int .u16 p0) rfl) ?_
  obtain ⟨x3, e4, hF⟩ := letO_some hF
  refine RL_do rfl rfl (Do_and (a := p0) (b := 2047) rfl rfl e4) ?_
  obtain ⟨x5, e6, hF⟩ := letO_some hF
  refine RL_do rfl rfl (Do_conv u23 u3 rfl e6) ?_
  refine RL_do rfl rfl (Do_assign (v := .int .i64 x5) rfl) ?_
  refine (RL_nil (thenQ_n (hK2 _ _ ?_)))
  have hR := Option.some.inj hF
  subst hR
  refine (WP_ret (post1 (v1 := .int .i64 x5) rfl rfl ?_))
  exact ⟨rfl, H.pick [] (by decide)⟩
end Go.Proofs.YtafgmocdnjdmoaaDoor.L
namespace Go.Proofs.YtafgmocdnjdmoaaDoor.L
open Go.RowKit Go.OB Go.Lf
/- orangebox/frame.numberOf -/
set_option maxHeartbeats 4000000 in
theorem F_frame_numberOf_w (p0 : Option (Arr 64 Int)) (v1 : Option Addr) (r : Int) (hF : F_frame_numberOf p0 = some r) (O S : List Nat) (w : World) (H : Hd O w w S [.fz (.pt (Rp.fl (Fl.arr 64 (Fl.int .u16))) v1 p0)]) :
    Calls Tryd.prog 91 ([.pointer v1] : List Value).toArray w fun e w' => e = .returned (.int .i64 r) ∧ Hd O w w' S [] := by
  unfold F_frame_numberOf at hF
  refine calls_of_WP 15 Tryd.func91 rfl rfl rfl ?_
  refine WP_seq_k fun K3 hK3 => ?_
  refine WP_region ?_
  refine RL_do rfl rfl (Do_assign (v := .int .i64 0) rfl) ?_
  refine (RL_nil (thenQ_n (hK3 _ _ ?_)))
  refine WP_seq_k fun K4 hK4 => ?_
  have H5 := H
  have H := H.rebase
  have H6 := H
  refine WP_mix0 H [0, 1, 2, 3, 4, 5, 6, 7, 8, 9, 10, 11, 12] [.pure, .pure, .pure, .read, .fcall, .pure, .pure, .pure, .read, .fcall, .pure, .pure, .pure] mixed (by kernel_rfl) (by kernel_rfl) (by kernel_rfl) rfl ?_
  refine Mx.XL_pure rfl rfl rfl (fun w' hw' => Do_move (v := .pointer v1) rfl) ?_
  obtain ⟨x7, e8, hF⟩ := bindO_some hF
  obtain ⟨b9, o10, cs11, q12, h13, h14, h15, h16⟩ := ptf_some ((H.item (i := 0) rfl) : PtF _ _ _ _ _) e8
  obtain rfl : cs11 = (Fl.arr 64 (Fl.int .u16)).f x7 := h15
  have H := H.fz (.at b9 o10 _) ⟨h13, h14, h16⟩
  refine Mx.XL_pure rfl rfl rfl (fun w' hw' => Do_nilCheck (ad := ⟨b9, o10, none⟩) (congrArg Value.pointer q12)) ?_
  obtain ⟨x18, e19, hF⟩ := bindO_some hF
  refine Mx.XL_pure rfl rfl rfl (fun w' hw' => Do_idxA (X := x7) u25 sz23 rfl rfl e19) ?_
  refine Mx.XL_read oS rfl rfl rfl (fun w' hw' => Do_load1 (v := .int .u16 x18) one23 rfl (Cells.ix (e := (Fl.int .u16)) (x := x7) ((H.sees hw').item (i := 1) rfl).2.2 e19)) ?_
  have H20 := H
  obtain ⟨x21, e22, hF⟩ := bindO_some hF
  refine Mx.XL_fcall oS rfl rfl rfl (v := .int .i64 x21) (fun w' hw' => DoC_func en85 rfl) (fun w' hw' => call_read (F_frame_data_w x18 _ e22 _ _ _ (Hd.fresh0 w'))) ?_
  have H := H20
  refine Mx.XL_pure rfl rfl rfl (fun w' hw' => Do_move (v := .pointer v1) rfl) ?_
  obtain ⟨x23, e24, hF⟩ := bindO_some hF
  obtain ⟨b25, o26, cs27, q28, h29, h30, h31, h32⟩ := ptf_some ((H.item (i := 0) rfl) : PtF _ _ _ _ _) e24
  obtain rfl : cs27 = (Fl.arr 64 (Fl.int .u16)).f x23 := h31
  have H := H.fz (.at b25 o26 _) ⟨h29, h30, h32⟩
  refine Mx.XL_pure rfl rfl rfl (fun w' hw' => Do_nilCheck (ad := ⟨b25, o26, none⟩) (congrArg Value.pointer q28)) ?_
  obtain ⟨x34, e35, hF⟩ := bindO_some hF
  refine Mx.XL_pure rfl rfl rfl (fun w' hw' => Do_idxA (X := x23) u25 sz23 rfl rfl e35) ?_
  refine Mx.XL_read oS rfl rfl rfl (fun w' hw' => Do_load1 (v := .int .u16 x34) one23 rfl (Cells.ix (e := (Fl.int .u16)) (x := x23) ((H.sees hw').item (i := 2) rfl).2.2 e35)) ?_
  have H36 := H
  obtain ⟨x37, e38, hF⟩ := bindO_some hF
  refine Mx.XL_fcall oS rfl rfl rfl (v := .int .i64 x37) (fun w' hw' => DoC_func en85 rfl) (fun w' hw' => call_read (F_frame_data_w x34 _ e38 _ _ _ (Hd.fresh0 w'))) ?_
  have H := H36
  obtain ⟨x39, e40, hF⟩ := bindO_some hF
  refine Mx.XL_pure rfl rfl rfl (fun w' hw' => Do_shl' (j := x37) (q := 11) rfl rfl e40) ?_
  obtain ⟨x41, e42, hF⟩ := letO_some hF
  refine Mx.XL_pure rfl rfl rfl (fun w' hw' => Do_or (a := x21) (b := x39) rfl rfl e42) ?_
  refine Mx.XL_pure rfl rfl rfl (fun w' hw' => Do_assign (v := .int .i64 x41) rfl) ?_
  refine Mx.XL_nil fun w43 hS => ?_
  have H := H.sees hS
  have H := H5.rejoin H
  refine (thenQ_n (hK4 _ _ ?_))
  have hR := Option.some.inj hF
  subst hR
  refine (WP_ret (post1 (v1 := .int .i64 x41) rfl rfl ?_))
  exact ⟨rfl, H.pick [] (by decide)⟩
end Go.Proofs.YtafgmocdnjdmoaaDoor.L
namespace Go.Proofs.YtafgmocdnjdmoaaDoor.L
open Go.RowKit Go.OB Go.Lf
/- math/bits.OnesCount16 -/
set_option maxHeartbeats 4000000 in
theorem F_math_bits_OnesCount16_w (p0 : Int) (r : Int) (hF : F_math_bits_OnesCount16 p0 = some r) (O S : List Nat) (w : World) (H : Hd O w w S []) :
    Calls Tryd.prog 80 ([.int .u16 p0] : List Value).toArray w fun e w' => e = .returned (.int .i64 r) ∧ Hd O w w' S [] := by
  unfold F_math_bits_OnesCount16 at hF
  refine calls_of_WP 11 Tryd.func80 rfl rfl rfl ?_
  refine WP_seq_k fun K1 hK1 => ?_
  refine WP_region ?_
  refine RL_do rfl rfl (Do_assign (v := .int .i64 0) rfl) ?_
  refine (RL_nil (thenQ_n (hK1 _ _ ?_)))
  refine WP_seq_k fun K2 hK2 => ?_
  have H3 := H
  have H := H.rebase
  have H4 := H
  refine WP_mix0 H [0, 1, 2, 3, 4, 5, 6, 7, 8] [.pure, .pure, .pure, .pure, .pure, .pure, .pure, .pure, .pure] mixed (by kernel_rfl) (by kernel_rfl) (by kernel_rfl) rfl ?_
  refine Mx.XL_pure rfl rfl rfl (fun w' hw' => Do_move (v := .int .u16 p0) rfl) ?_
  obtain ⟨x5, e6, hF⟩ := bindO_some hF
  refine Mx.XL_pure rfl rfl rfl (fun w' hw' => Do_shr' (j := p0) (q := 8) rfl rfl e6) ?_
  obtain ⟨x7, e8, hF⟩ := bindO_some hF
  refine Mx.XL_pure rfl rfl rfl (fun w' hw' => Do_sidx (s1 := [0, 1, 1, 2, 1, 2, 2, 3, 1, 2, 2, 3, 2, 3, 3, 4, 1, 2, 2, 3, 2, 3, 3, 4, 2, 3, 3, 4, 3, 4, 4, 5, 1, 2, 2, 3, 2, 3, 3, 4, 2, 3, 3, 4, 3, 4, 4, 5, 2, 3, 3, 4, 3, 4, 4, 5, 3, 4, 4, 5, 4, 5, 5, 6, 1, 2, 2, 3, 2, 3, 3, 4, 2, 3, 3, 4, 3, 4, 4, 5, 2, 3, 3, 4, 3, 4, 4, 5, 3, 4, 4, 5, 4, 5, 5, 6, 2, 3, 3, 4, 3, 4, 4, 5, 3, 4, 4, 5, 4, 5, 5, 6, 3, 4, 4, 5, 4, 5, 5, 6, 4, 5, 5, 6, 5, 6, 6, 7, 1, 2, 2, 3, 2, 3, 3, 4, 2, 3, 3, 4, 3, 4, 4, 5, 2, 3, 3, 4, 3, 4, 4, 5, 3, 4, 4, 5, 4, 5, 5, 6, 2, 3, 3, 4, 3, 4, 4, 5, 3, 4, 4, 5, 4, 5, 5, 6, 3, 4, 4, 5, 4, 5, 5, 6, 4, 5, 5, 6, 5, 6, 6, 7, 2, 3, 3, 4, 3, 4, 4, 5, 3, 4, 4, 5, 4, 5, 5, 6, 3, 4, 4, 5, 4, 5, 5, 6, 4, 5, 5, 6, 5, 6, 6, 7, 3, 4, 4, 5, 4, 5, 5, 6, 4, 5, 5, 6, 5, 6, 6, 7, 4, 5, 5, 6, 5, 6, 6, 7, 5, 6, 6, 7, 6, 7, 7, 8]) (q := x5) u9 rfl rfl e8) ?_
  refine Mx.XL_pure rfl rfl rfl (fun w' hw' => Do_move (v := .int .u16 p0) rfl) ?_
  obtain ⟨x9, e10, hF⟩ := letO_some hF
  refine Mx.XL_pure rfl rfl rfl (fun w' hw' => Do_and (a := p0) (b := 255) rfl rfl e10) ?_
  obtain ⟨x11, e12, hF⟩ := bindO_some hF
  refine Mx.XL_pure rfl rfl rfl (fun w' hw' => Do_sidx (s1 := [0, 1, 1, 2, 1, 2, 2, 3, 1, 2, 2, 3, 2, 3, 3, 4, 1, 2, 2, 3, 2, 3, 3, 4, 2, 3, 3, 4, 3, 4, 4, 5, 1, 2, 2, 3, 2, 3, 3, 4, 2, 3, 3, 4, 3, 4, 4, 5, 2, 3, 3, 4, 3, 4, 4, 5, 3, 4, 4, 5, 4, 5, 5, 6, 1, 2, 2, 3, 2, 3, 3, 4, 2, 3, 3, 4, 3, 4, 4, 5, 2, 3, 3, 4, 3, 4, 4, 5, 3, 4, 4, 5, 4, 5, 5, 6, 2, 3, 3, 4, 3, 4, 4, 5, 3, 4, 4, 5, 4, 5, 5, 6, 3, 4, 4, 5, 4, 5, 5, 6, 4, 5, 5, 6, 5, 6, 6, 7, 1, 2, 2, 3, 2, 3, 3, 4, 2, 3, 3, 4, 3, 4, 4, 5, 2, 3, 3, 4, 3, 4, 4, 5, 3, 4, 4, 5, 4, 5, 5, 6, 2, 3, 3, 4, 3, 4, 4, 5, 3, 4, 4, 5, 4, 5, 5, 6, 3, 4, 4, 5, 4, 5, 5, 6, 4, 5, 5, 6, 5, 6, 6, 7, 2, 3, 3, 4, 3, 4, 4, 5, 3, 4, 4, 5, 4, 5, 5, 6, 3, 4, 4, 5, 4, 5, 5, 6, 4, 5, 5, 6, 5, 6, 6, 7, 3, 4, 4, 5, 4, 5, 5, 6, 4, 5, 5, 6, 5, 6, 6, 7, 4, 5, 5, 6, 5, 6, 6, 7, 5, 6, 6, 7, 6, 7, 7, 8]) (q := x9) u9 rfl rfl e12) ?_
  obtain ⟨x13, e14, hF⟩ := letO_some hF
  refine Mx.XL_pure rfl rfl rfl (fun w' hw' => Do_add (a := x7) (b := x11) rfl rfl e14) ?_
  obtain ⟨x15, e16, hF⟩ := letO_some hF
  refine Mx.XL_pure rfl rfl rfl (fun w' hw' => Do_conv u5 u3 rfl e16) ?_
  refine Mx.XL_pure rfl rfl rfl (fun w' hw' => Do_assign (v := .int .i64 x15) rfl) ?_
  refine Mx.XL_nil fun w17 hS => ?_
  have H := H.sees hS
  have H := H3.rejoin H
  refine (thenQ_n (hK2 _ _ ?_))
  have hR := Option.some.inj hF
  subst hR
  refine (WP_ret (post1 (v1 := .int .i64 x15) rfl rfl ?_))
  exact ⟨rfl, H.pick [] (by decide)⟩
end Go.Proofs.YtafgmocdnjdmoaaDoor.L
namespace Go.Proofs.YtafgmocdnjdmoaaDoor.L
open Go.RowKit Go.OB Go.Lf
/- orangebox/frame.odd -/
set_option maxHeartbeats 4000000 in
theorem F_frame_odd_w (p0 : Int) (r : Bool) (hF : F_frame_odd p0 = some r) (O S : List Nat) (w : World) (H : Hd O w w S []) :
    Calls Tryd.prog 86 ([.int .u16 p0] : List Value).toArray w fun e w' => e = .returned (.bool r) ∧ Hd O w w' S [] := by
  unfold F_frame_odd at hF
  refine calls_of_WP 11 Tryd.func86 rfl rfl rfl ?_
  refine WP_seq_k fun K1 hK1 => ?_
  refine WP_region ?_
  refine RL_do rfl rfl (Do_assign (v := .bool false) rfl) ?_
  refine (RL_nil (thenQ_n (hK1 _ _ ?_)))
  obtain ⟨g14, hF, hK16⟩ := bindO_some hF
  refine WP_seqS [2, 3, 4, 5, 6, 7, 8, 9, 10] (fun (g : Unit) => [(2, .bool g14)]) (fun g wl => Hd O w wl S []) ?_ ?_
  · skip
    refine WP_region ?_
    refine RL_do rfl rfl (Do_move (v := .int .u16 p0) rfl) ?_
    obtain ⟨x17, e18, hF⟩ := letO_some hF
    refine RL_do rfl rfl (Do_as (Do_leq (a := p0) (b := 4095) rfl rfl) (congrArg Value.bool e18)) ?_
    refine RL_splitb (b := x17) rfl rfl rfl (fun c19 => ?_) (fun c19 => ?_)
    · have hF := iteB_t c19 hF
      refine RL_do rfl rfl (Do_move (v := .int .u16 p0) rfl) ?_
      have H20 := H
      obtain ⟨x21, e22, hF⟩ := bindO_some hF
      refine RL_call rfl rfl (DoC_func en80 rfl) (F_math_bits_OnesCount16_w p0 _ e22 _ _ _ (H.enter [] [] (by decide) rfl)) ?_
      rintro _ w23 ⟨rfl, G24⟩
      have H := H20.step (G24.only : Only [] _ _)
      refine ⟨_, rfl, ?_⟩
      obtain ⟨x25, e26, hF⟩ := bindO_some hF
      refine RL_do rfl rfl (Do_rem' (j := x21) (q := 2) rfl rfl e26) ?_
      obtain ⟨x27, e28, hF⟩ := letO_some hF
      refine RL_do rfl rfl (Do_as (Do_eql (a := x25) (b := 1) rfl rfl) (congrArg Value.bool e28)) ?_
      refine RL_do rfl rfl (Do_pick_t (v := .bool x27) rfl rfl) ?_
      refine RL_do rfl rfl (Do_assign (v := .bool x27) rfl) ?_
      have hR := Option.some.inj hF
      subst hR
      refine (RL_nil (thenQ_n (And.intro ?_ ?_)))
      · repeat' (first | with_reducible exact Fr_refl | refine Fr_upd rfl ?_ | refine Fr_over rfl rfl ?_)
      · exact ⟨(), (Sl_cons rfl Sl_nil), H.pick [] (by decide)⟩
    · have hF := iteB_f c19 hF
      refine RL_off rfl rfl ?_
      refine RL_off rfl rfl ?_
      refine RL_off rfl rfl ?_
      refine RL_off rfl rfl ?_
      refine RL_do rfl rfl (Do_pick_f (v := .bool false) rfl rfl) ?_
      refine RL_do rfl rfl (Do_assign (v := .bool false) rfl) ?_
      have hR := Option.some.inj hF
      subst hR
      refine (RL_nil (thenQ_n (And.intro ?_ ?_)))
      · repeat' (first | with_reducible exact Fr_refl | refine Fr_upd rfl ?_ | refine Fr_over rfl rfl ?_)
      · exact ⟨(), (Sl_cons rfl Sl_nil), H.pick [] (by decide)⟩
  · rintro _ ρ w15 H
    have hF := hK16
    have hR := Option.some.inj hF
    subst hR
    refine (WP_ret (post1 (v1 := .bool g14) rfl rfl ?_))
    exact ⟨rfl, H.pick [] (by decide)⟩
end Go.Proofs.YtafgmocdnjdmoaaDoor.L
namespace Go.Proofs.YtafgmocdnjdmoaaDoor.L
open Go.RowKit Go.OB Go.Lf
/- orangebox/frame.sumOf -/
set_option maxHeartbeats 4000000 in
theorem F_frame_sumOf_w (p0 : Option (Arr 64 Int)) (v1 : Option Addr) (r : Int) (hF : F_frame_sumOf p0 = some r) (O S : List Nat) (w : World) (H : Hd O w w S [.fz (.pt (Rp.fl (Fl.arr 64 (Fl.int .u16))) v1 p0)]) :
    Calls Tryd.prog 92 ([.pointer v1] : List Value).toArray w fun e w' => e = .returned (.int .i64 r) ∧ Hd O w w' S [] := by
  unfold F_frame_sumOf at hF
  refine calls_of_WP 19 Tryd.func92 rfl rfl rfl ?_
  refine WP_seq_k fun K3 hK3 => ?_
  refine WP_region ?_
  refine RL_do rfl rfl (Do_assign (v := .int .i64 0) rfl) ?_
  refine (RL_nil (thenQ_n (hK3 _ _ ?_)))
  refine WP_seq_k fun K4 hK4 => ?_
  refine WP_region ?_
  refine RL_do rfl rfl (Do_assign (v := .int .i64 0) rfl) ?_
  refine (RL_nil (thenQ_n (hK4 _ _ ?_)))
  obtain ⟨g124, hF, hK126⟩ := bindO_some hF
  refine WP_seqS [3, 4, 5, 6, 7, 8, 9, 10, 11, 12, 13, 14, 15, 16, 17] (fun (g : Unit) => [(3, .int .i64 g124)]) (fun g wl => Hd O w wl S []) ?_ ?_
  · skip
    refine WP_seq_k fun K127 hK127 => ?_
    refine WP_region ?_
    refine RL_do rfl rfl (Do_move (v := .int .i64 0) rfl) ?_
    refine (RL_nil (thenQ_n (hK127 _ _ ?_)))
    refine WP_block ?_
    unfold F_frame_sumOf_L1 at hF
    obtain ⟨B242, n243, eB244, hF⟩ := loopO_some hF
    refine WP_loopS [3, 4, 5, 6, 7, 8, 9, 10, 11, 12, 13, 14, 15, 16, 17] (fun (g : Nat × Int × Int) => [(3, .int .i64 g.2.1), (5, .int .i64 g.2.2)]) (fun g wl => Hd O w wl S [.fz (.pt (Rp.fl (Fl.arr 64 (Fl.int .u16))) v1 p0)] ∧ loopN B242 g.1 (g.2.1, g.2.2) = some g124) (fun g => g.1) (n243, 0, 0) (Sl_cons rfl (Sl_cons rfl Sl_nil)) ⟨H.pick [0] (by decide), hF⟩ ?_
    clear H hF
    rintro ⟨n243, g240, g241⟩ ρ w246 ⟨H, hF⟩
    obtain ⟨n247, rfl, hF⟩ := loopN_pos hF
    have hF := loop_body eB244 hF
    refine WP_seq_k fun K248 hK248 => ?_
    refine WP_region ?_
    obtain ⟨x249, e250, hF⟩ := letO_some hF
    refine RL_do rfl rfl (Do_as (Do_lss (a := g241) (b := 60) rfl rfl) (congrArg Value.bool e250)) ?_
    refine (RL_nil (thenQ_n (hK248 _ _ ?_)))
    refine WP_seq_k fun K252 hK252 => ?_
    refine WP_ifb (b := x249) rfl (fun c253 => ?_) (fun c253 => ?_)
    · have hF := iteB_t c253 hF
      refine (WP_skip (thenQ_n (hK252 _ _ ?_)))
      refine WP_seq_k fun K277 hK277 => ?_
      refine WP_block ?_
      refine WP_seq_k fun K278 hK278 => ?_
      refine WP_region ?_
      refine RL_do rfl rfl (Do_move (v := .int .i64 g241) rfl) ?_
      refine RL_do rfl rfl (Do_assign (v := .int .i64 g241) rfl) ?_
      refine (RL_nil (thenQ_n (hK278 _ _ ?_)))
      refine WP_region ?_
      refine RL_do rfl rfl (Do_move (v := .int .i64 g240) rfl) ?_
      refine RL_do rfl rfl (Do_move (v := .pointer v1) rfl) ?_
      refine RL_do rfl rfl (Do_move (v := .int .i64 g241) rfl) ?_
      obtain ⟨x279, e280, hF⟩ := letO_some hF
      refine RL_do rfl rfl (Do_add (a := g241) (b := 1) rfl rfl e280) ?_
      obtain ⟨x281, e282, hF⟩ := bindO_some hF
      obtain ⟨b283, o284, cs285, q286, h287, h288, h289, h290⟩ := ptf_some ((H.item (i := 0) rfl) : PtF _ _ _ _ _) e282
      obtain rfl : cs285 = (Fl.arr 64 (Fl.int .u16)).f x281 := h289
      have H := H.fz (.at b283 o284 _) ⟨h287, h288, h290⟩
      refine RL_do rfl rfl (Do_nilCheck (ad := ⟨b283, o284, none⟩) (congrArg Value.pointer q286)) ?_
      obtain ⟨x292, e293, hF⟩ := bindO_some hF
      refine RL_do rfl rfl (Do_idxA (X := x281) u25 sz23 rfl rfl e293) ?_
      refine RL_do rfl rfl (Do_load1 (v := .int .u16 x292) one23 rfl (Cells.ix (e := (Fl.int .u16)) (x := x281) (H.item (i := 1) rfl).2.2 e293)) ?_
      have H294 := H
      obtain ⟨x295, e296, hF⟩ := bindO_some hF
      refine RL_call rfl rfl (DoC_func en85 rfl) (F_frame_data_w x292 _ e296 _ _ _ (H.enter [] [] (by decide) rfl)) ?_
      rintro _ w297 ⟨rfl, G298⟩
      have H := H294.step (G298.only : Only [] _ _)
      refine ⟨_, rfl, ?_⟩
      obtain ⟨x299, e300, hF⟩ := letO_some hF
      refine RL_do rfl rfl (Do_xor (a := g240) (b := x295) rfl rfl e300) ?_
      refine RL_do rfl rfl (Do_assign (v := .int .i64 x299) rfl) ?_
      refine (RL_nil (blockQ_n (thenQ_n (hK277 _ _ ?_))))
      refine WP_region ?_
      obtain ⟨x301, e302, hF⟩ := letO_some hF
      refine RL_do rfl rfl (Do_add (a := g241) (b := 1) rfl rfl e302) ?_
      refine RL_do rfl rfl (Do_move (v := .int .i64 x301) rfl) ?_
      refine (RL_nil (thenQ_n (And.intro ?_ ?_)))
      · repeat' (first | with_reducible exact Fr_refl | refine Fr_upd rfl ?_ | refine Fr_over rfl rfl ?_)
      · exact ⟨(n247, x299, x301), (Sl_cons rfl (Sl_cons rfl Sl_nil)), ⟨H.pick [0] (by decide), hF⟩, Nat.lt_succ_self _⟩
    · have hF := iteB_f c253 hF
      have hR := Option.some.inj hF
      subst hR
      refine (WP_exit (thenQ_x (thenQ_x (blockQ_eq (thenQ_n (And.intro ?_ ?_))))))
      · repeat' (first | with_reducible exact Fr_refl | refine Fr_upd rfl ?_ | refine Fr_over rfl rfl ?_)
      · exact ⟨(), (Sl_cons rfl Sl_nil), H.pick [] (by decide)⟩
  · rintro _ ρ w125 H
    have hF := hK126
    refine WP_seq_k fun K303 hK303 => ?_
    refine WP_region ?_
    refine RL_do rfl rfl (Do_move (v := .int .i64 g124) rfl) ?_
    refine RL_do rfl rfl (Do_assign (v := .int .i64 g124) rfl) ?_
    refine (RL_nil (thenQ_n (hK303 _ _ ?_)))
    have hR := Option.some.inj hF
    subst hR
    refine (WP_ret (post1 (v1 := .int .i64 g124) rfl rfl ?_))
    exact ⟨rfl, H.pick [] (by decide)⟩
end Go.Proofs.YtafgmocdnjdmoaaDoor.L
namespace Go.Proofs.YtafgmocdnjdmoaaDoor.L
open Go.RowKit Go.OB Go.Lf
/- orangebox/frame.checkOf -/
set_option maxHeartbeats 4000000 in
theorem F_frame_checkOf_w (p0 : Option (Arr 64 Int)) (v1 : Option Addr) (r : Int) (hF : F_frame_checkOf p0 = some r) (O S : List Nat) (w : World) (H : Hd O w w S [.fz (.pt (Rp.fl (Fl.arr 64 (Fl.int .u16))) v1 p0)]) :
    Calls Tryd.prog 93 ([.pointer v1] : List Value).toArray w fun e w' => e = .returned (.int .i64 r) ∧ Hd O w w' S [] := by
  unfold F_frame_checkOf at hF
  refine calls_of_WP 35 Tryd.func93 rfl rfl rfl ?_
  refine WP_seq_k fun K3 hK3 => ?_
  refine WP_region ?_
  refine RL_do rfl rfl (Do_assign (v := .int .i64 0) rfl) ?_
  refine (RL_nil (thenQ_n (hK3 _ _ ?_)))
  refine WP_seq_k fun K4 hK4 => ?_
  refine WP_region ?_
  refine RL_do rfl rfl (Do_assign (v := .int .i64 0) rfl) ?_
  refine (RL_nil (thenQ_n (hK4 _ _ ?_)))
  obtain ⟨g252, hF, hK254⟩ := bindO_some hF
  refine WP_seqS [3, 4, 5, 6, 7, 8, 9, 10, 11, 12, 13, 14, 15, 16, 17, 18, 19, 20, 21, 22, 23, 24, 25, 26, 27, 28, 29, 30, 31, 32, 33] (fun (g : Unit) => [(3, .int .i64 g252)]) (fun g wl => Hd O w wl S []) ?_ ?_
  · skip
    refine WP_seq_k fun K255 hK255 => ?_
    refine WP_region ?_
    refine RL_do rfl rfl (Do_move (v := .int .i64 0) rfl) ?_
    refine (RL_nil (thenQ_n (hK255 _ _ ?_)))
    refine WP_block ?_
    unfold F_frame_checkOf_L1 at hF
    obtain ⟨B498, n499, eB500, hF⟩ := loopO_some hF
    refine WP_loopS [3, 4, 5, 6, 7, 8, 9, 10, 11, 12, 13, 14, 15, 16, 17, 18, 19, 20, 21, 22, 23, 24, 25, 26, 27, 28, 29, 30, 31, 32, 33] (fun (g : Nat × Int × Int) => [(3, .int .i64 g.2.1), (7, .int .i64 g.2.2)]) (fun g wl => Hd O w wl S [.fz (.pt (Rp.fl (Fl.arr 64 (Fl.int .u16))) v1 p0)] ∧ loopN B498 g.1 (g.2.1, g.2.2) = some g252) (fun g => g.1) (n499, 0, 0) (Sl_cons rfl (Sl_cons rfl Sl_nil)) ⟨H.pick [0] (by decide), hF⟩ ?_
    clear H hF
    rintro ⟨n499, g496, g497⟩ ρ w502 ⟨H, hF⟩
    obtain ⟨n503, rfl, hF⟩ := loopN_pos hF
    have hF := loop_body eB500 hF
    refine WP_seq_k fun K504 hK504 => ?_
    refine WP_region ?_
    obtain ⟨x505, e506, hF⟩ := letO_some hF
    refine RL_do rfl rfl (Do_as (Do_lss (a := g497) (b := 62) rfl rfl) (congrArg Value.bool e506)) ?_
    refine (RL_nil (thenQ_n (hK504 _ _ ?_)))
    refine WP_seq_k fun K508 hK508 => ?_
    refine WP_ifb (b := x505) rfl (fun c509 => ?_) (fun c509 => ?_)
    · have hF := iteB_t c509 hF
      refine (WP_skip (thenQ_n (hK508 _ _ ?_)))
      obtain ⟨g618, hF, hK620⟩ := bindO_some hF
      refine WP_seqS [3, 4, 5, 6, 9, 10, 11, 12, 13, 14, 15, 16, 17, 18, 19, 20, 21, 22, 23, 24, 25, 26, 27, 28, 29, 30, 31, 32] (fun (g : Unit) => [(3, .int .i64 g618)]) (fun g wl => Hd O w wl S [.fz (.pt (Rp.fl (Fl.arr 64 (Fl.int .u16))) v1 p0)]) ?_ ?_
      · skip
        refine WP_block ?_
        refine WP_seq_k fun K621 hK621 => ?_
        refine WP_region ?_
        refine RL_do rfl rfl (Do_move (v := .int .i64 g497) rfl) ?_
        refine RL_do rfl rfl (Do_assign (v := .int .i64 g497) rfl) ?_
        refine (RL_nil (thenQ_n (hK621 _ _ ?_)))
        refine WP_seq_k fun K622 hK622 => ?_
        refine WP_region ?_
        refine RL_do rfl rfl (Do_assign (v := .int .i64 11) rfl) ?_
        refine (RL_nil (thenQ_n (hK622 _ _ ?_)))
        refine WP_block ?_
        unfold F_frame_checkOf_L2 at hF
        obtain ⟨B725, n726, eB727, hF⟩ := loopO_some hF
        refine WP_loopS [3, 5, 6, 10, 11, 12, 13, 14, 15, 16, 17, 18, 19, 20, 21, 22, 23, 24, 25, 26, 27, 28, 29, 30, 31, 32] (fun (g : Nat × Int × Int) => [(3, .int .i64 g.2.1), (5, .int .i64 g.2.2)]) (fun g wl => Hd O w wl S [.fz (.pt (Rp.fl (Fl.arr 64 (Fl.int .u16))) v1 p0)] ∧ loopN B725 g.1 (g.2.1, g.2.2) = some g618) (fun g => g.1) (n726, g496, 11) (Sl_cons rfl (Sl_cons rfl Sl_nil)) ⟨H.pick [0] (by decide), hF⟩ ?_
        clear H hF
        rintro ⟨n726, g723, g724⟩ ρ w729 ⟨H, hF⟩
        obtain ⟨n730, rfl, hF⟩ := loopN_pos hF
        have hF := loop_body eB727 hF
        refine WP_seq_k fun K735 hK735 => ?_
        refine WP_seq_k fun K736 hK736 => ?_
        refine WP_region ?_
        refine RL_do rfl rfl (Do_move (v := .int .i64 g724) rfl) ?_
        obtain ⟨x737, e738, hF⟩ := letO_some hF
        refine RL_do rfl rfl (Do_as (Do_geq (a := g724) (b := 0) rfl rfl) (congrArg Value.bool e738)) ?_
        refine (RL_nil (thenQ_n (hK736 _ _ ?_)))
        refine WP_ifb (b := x737) rfl (fun c739 => ?_) (fun c739 => ?_)
        · have hF := iteB_t c739 hF
          refine (WP_skip (thenQ_n (hK735 _ _ ?_)))
          obtain ⟨g775, hF, hK777⟩ := bindO_some hF
          refine WP_seqS [3, 6, 14, 15, 16, 17, 18, 19, 20, 21, 22, 23, 24, 25, 26, 27, 28, 29, 30, 31, 32] (fun (g : Unit) => [(3, .int .i64 g775)]) (fun g wl => Hd O w wl S [.fz (.pt (Rp.fl (Fl.arr 64 (Fl.int .u16))) v1 p0)]) ?_ ?_
          · skip
            refine WP_block ?_
            refine WP_seq_k fun K778 hK778 => ?_
            refine WP_region ?_
            refine RL_do rfl rfl (Do_move (v := .int .i64 g723) rfl) ?_
            obtain ⟨x779, e780, hF⟩ := letO_some hF
            refine RL_do rfl rfl (Do_and (a := g723) (b := 2097152) rfl rfl e780) ?_
            obtain ⟨x781, e782, hF⟩ := letO_some hF
            refine RL_do rfl rfl (Do_as (Do_neq (a := x779) (b := 0) rfl rfl) (congrArg Value.bool e782)) ?_
            refine RL_do rfl rfl (Do_assign (v := .bool x781) rfl) ?_
            refine (RL_nil (thenQ_n (hK778 _ _ ?_)))
            refine WP_seq_k fun K783 hK783 => ?_
            refine WP_region ?_
            refine RL_do rfl rfl (Do_move (v := .int .i64 g723) rfl) ?_
            obtain ⟨x784, e785, hF⟩ := bindO_some hF
            refine RL_do rfl rfl (Do_shl' (j := g723) (q := 1) rfl rfl e785) ?_
            obtain ⟨x786, e787, hF⟩ := letO_some hF
            refine RL_do rfl rfl (Do_and (a := x784) (b := 4194303) rfl rfl e787) ?_
            refine RL_do rfl rfl (Do_assign (v := .int .i64 x786) rfl) ?_
            refine (RL_nil (thenQ_n (hK783 _ _ ?_)))
            refine WP_seq_k fun K788 hK788 => ?_
            refine WP_region ?_
            refine RL_do rfl rfl (Do_move (v := .bool x781) rfl) ?_
            refine RL_do rfl rfl (Do_move (v := .pointer v1) rfl) ?_
            refine RL_do rfl rfl (Do_move (v := .int .i64 g497) rfl) ?_
            obtain ⟨x789, e790, hF⟩ := bindO_some hF
            obtain ⟨b791, o792, cs793, q794, h795, h796, h797, h798⟩ := ptf_some ((H.item (i := 0) rfl) : PtF _ _ _ _ _) e790
            obtain rfl : cs793 = (Fl.arr 64 (Fl.int .u16)).f x789 := h797
            have H := H.fz (.at b791 o792 _) ⟨h795, h796, h798⟩
            refine RL_do rfl rfl (Do_nilCheck (ad := ⟨b791, o792, none⟩) (congrArg Value.pointer q794)) ?_
            obtain ⟨x800, e801, hF⟩ := bindO_some hF
            refine RL_do rfl rfl (Do_idxA (X := x789) u25 sz23 rfl rfl e801) ?_
            refine RL_do rfl rfl (Do_load1 (v := .int .u16 x800) one23 rfl (Cells.ix (e := (Fl.int .u16)) (x := x789) (H.item (i := 1) rfl).2.2 e801)) ?_
            refine RL_do rfl rfl (Do_move (v := .int .i64 g724) rfl) ?_
            obtain ⟨x802, e803, hF⟩ := bindO_some hF
            refine RL_do rfl rfl (Do_shr' (j := x800) (q := g724) rfl rfl e803) ?_
            obtain ⟨x804, e805, hF⟩ := letO_some hF
            refine RL_do rfl rfl (Do_and (a := x802) (b := 1) rfl rfl e805) ?_
            obtain ⟨x806, e807, hF⟩ := letO_some hF
            refine RL_do rfl rfl (Do_as (Do_eql (a := x804) (b := 1) rfl rfl) (congrArg Value.bool e807)) ?_
            obtain ⟨x808, e809, hF⟩ := letO_some hF
            refine RL_do rfl rfl (Do_as (Do_neqb (p := x781) (q := x806) u4 rfl rfl) (congrArg Value.bool e809)) ?_
            refine (RL_nil (thenQ_n (hK788 _ _ ?_)))
            refine WP_ifb (b := x808) rfl (fun c810 => ?_) (fun c810 => ?_)
            · have hF := iteB_t c810 hF
              refine WP_region ?_
              refine RL_do rfl rfl (Do_move (v := .int .i64 x786) rfl) ?_
              obtain ⟨x811, e812, hF⟩ := letO_some hF
              refine RL_do rfl rfl (Do_xor (a := x786) (b := 2097167) rfl rfl e812) ?_
              refine RL_do rfl rfl (Do_assign (v := .int .i64 x811) rfl) ?_
              have hR := Option.some.inj hF
              subst hR
              refine (RL_nil (blockQ_n (thenQ_n (And.intro ?_ ?_))))
              · repeat' (first | with_reducible exact Fr_refl | refine Fr_upd rfl ?_ | refine Fr_over rfl rfl ?_)
              · exact ⟨(), (Sl_cons rfl Sl_nil), H.pick [0] (by decide)⟩
            · have hF := iteB_f c810 hF
              have hR := Option.some.inj hF
              subst hR
              refine (WP_skip (blockQ_n (thenQ_n (And.intro ?_ ?_))))
              · repeat' (first | with_reducible exact Fr_refl | refine Fr_upd rfl ?_ | refine Fr_over rfl rfl ?_)
              · exact ⟨(), (Sl_cons rfl Sl_nil), H.pick [0] (by decide)⟩
          · rintro _ ρ w776 H
            have hF := hK777
            refine WP_region ?_
            refine RL_do rfl rfl (Do_move (v := .int .i64 g724) rfl) ?_
            obtain ⟨x813, e814, hF⟩ := letO_some hF
            refine RL_do rfl rfl (Do_sub (a := g724) (b := 1) rfl rfl e814) ?_
            refine RL_do rfl rfl (Do_assign (v := .int .i64 x813) rfl) ?_
            refine (RL_nil (thenQ_n (And.intro ?_ ?_)))
            · repeat' (first | with_reducible exact Fr_refl | refine Fr_upd rfl ?_ | refine Fr_over rfl rfl ?_)
            · exact ⟨(n730, g775, x813), (Sl_cons rfl (Sl_cons rfl Sl_nil)), ⟨H.pick [0] (by decide), hF⟩, Nat.lt_succ_self _⟩
        · have hF := iteB_f c739 hF
          have hR := Option.some.inj hF
          subst hR
          refine (WP_exit (thenQ_x (thenQ_x (blockQ_eq (blockQ_n (thenQ_n (And.intro ?_ ?_)))))))
          · repeat' (first | with_reducible exact Fr_refl | refine Fr_upd rfl ?_ | refine Fr_over rfl rfl ?_)
          · exact ⟨(), (Sl_cons rfl Sl_nil), H.pick [0] (by decide)⟩
      · rintro _ ρ w619 H
        have hF := hK620
        refine WP_region ?_
        obtain ⟨x815, e816, hF⟩ := letO_some hF
        refine RL_do rfl rfl (Do_add (a := g497) (b := 1) rfl rfl e816) ?_
        refine RL_do rfl rfl (Do_move (v := .int .i64 x815) rfl) ?_
        refine (RL_nil (thenQ_n (And.intro ?_ ?_)))
        · repeat' (first | with_reducible exact Fr_refl | refine Fr_upd rfl ?_ | refine Fr_over rfl rfl ?_)
        · exact ⟨(n503, g618, x815), (Sl_cons rfl (Sl_cons rfl Sl_nil)), ⟨H.pick [0] (by decide), hF⟩, Nat.lt_succ_self _⟩
    · have hF := iteB_f c509 hF
      have hR := Option.some.inj hF
      subst hR
      refine (WP_exit (thenQ_x (thenQ_x (blockQ_eq (thenQ_n (And.intro ?_ ?_))))))
      · repeat' (first | with_reducible exact Fr_refl | refine Fr_upd rfl ?_ | refine Fr_over rfl rfl ?_)
      · exact ⟨(), (Sl_cons rfl Sl_nil), H.pick [] (by decide)⟩
  · rintro _ ρ w253 H
    have hF := hK254
    refine WP_seq_k fun K817 hK817 => ?_
    refine WP_region ?_
    refine RL_do rfl rfl (Do_move (v := .int .i64 g252) rfl) ?_
    refine RL_do rfl rfl (Do_assign (v := .int .i64 g252) rfl) ?_
    refine (RL_nil (thenQ_n (hK817 _ _ ?_)))
    have hR := Option.some.inj hF
    subst hR
    refine (WP_ret (post1 (v1 := .int .i64 g252) rfl rfl ?_))
    exact ⟨rfl, H.pick [] (by decide)⟩
end Go.Proofs.YtafgmocdnjdmoaaDoor.L
namespace Go.Proofs.YtafgmocdnjdmoaaDoor.L
open Go.RowKit Go.OB Go.Lf
/- orangebox/frame.sound -/
set_option maxHeartbeats 4000000 in
theorem F_frame_sound_w (p0 : Option (Arr 64 Int)) (v1 : Option Addr) (r : Bool) (hF : F_frame_sound p0 = some r) (O S : List Nat) (w : World) (H : Hd O w w S [.fz (.pt (Rp.fl (Fl.arr 64 (Fl.int .u16))) v1 p0), .fz (.at 0 0 ((Fl.arr 4 (Fl.int .u16)).f G_frame_syncs))]) :
    Calls Tryd.prog 96 ([.pointer v1] : List Value).toArray w fun e w' => e = .returned (.bool r) ∧ Hd O w w' S [] := by
  unfold F_frame_sound at hF
  refine calls_of_WP 54 Tryd.func96 rfl rfl rfl ?_
  refine WP_seq_k fun K4 hK4 => ?_
  refine WP_region ?_
  refine RL_do rfl rfl (Do_assign (v := .bool false) rfl) ?_
  refine (RL_nil (thenQ_n (hK4 _ _ ?_)))
  refine WP_seq_k fun K63 hK63 => ?_
  obtain ⟨g117, hF, hK119⟩ := bindO_some hF
  refine WP_seqS [4, 5, 6, 7, 8, 9, 10, 11, 12, 13, 14, 15, 16, 17, 18, 19, 20, 21, 22, 23, 24, 25, 26, 27] (fun (g : Unit) => [(27, .bool g117)]) (fun g wl => Hd O w wl S [.fz (.pt (Rp.fl (Fl.arr 64 (Fl.int .u16))) v1 p0), .fz (.at 0 0 ((Fl.arr 4 (Fl.int .u16)).f G_frame_syncs))]) ?_ ?_
  · skip
    have H120 := H
    have H := H.rebase
    have H121 := H
    refine WP_mix0 H [0, 1, 2, 3, 4, 5, 6, 7, 8, 9, 10, 11, 12, 13, 14, 15, 16, 17, 18, 19, 20, 21, 22, 23] [.pure, .read, .pure, .pure, .pure, .pure, .read, .pure, .read, .pure, .pure, .read, .pure, .pure, .pure, .pure, .pure, .pure, .read, .fcall, .pure, .read, .pure, .pure] mixed (by kernel_rfl) (by kernel_rfl) (by kernel_rfl) rfl ?_
    refine Mx.XL_pure rfl rfl rfl (fun w' hw' => Do_move (v := .pointer v1) rfl) ?_
    have H122 := H
    obtain ⟨x123, e124, hF⟩ := bindO_some hF
    refine Mx.XL_call oS rfl rfl rfl (v := .bool x123) (fun w' hw' => DoC_func en78 rfl) (fun w' hw' => call_read (F_frame_wide_w p0 v1 _ e124 _ _ _ ((H.sees hw').enter [] [0] (by decide) rfl))) ?_
    have H := H122
    refine Mx.XL_splitb (b := x123) rfl rfl rfl rfl (fun c125 => ?_) (fun c125 => ?_)
    · have hF := iteB_t c125 hF
      refine Mx.XL_offp rfl rfl rfl ?_
      refine Mx.XL_offp rfl rfl rfl ?_
      refine Mx.XL_offp rfl rfl rfl ?_
      refine Mx.XL_offr oS rfl rfl rfl ?_
      refine Mx.XL_offp rfl rfl rfl ?_
      refine Mx.XL_offr oS rfl rfl rfl ?_
      refine Mx.XL_offp rfl rfl rfl ?_
      refine Mx.XL_offp rfl rfl rfl ?_
      refine Mx.XL_offr oS rfl rfl rfl ?_
      refine Mx.XL_offp rfl rfl rfl ?_
      refine Mx.XL_pure rfl rfl rfl (fun w' hw' => Do_pick_t (v := .bool true) rfl rfl) ?_
      refine Mx.XL_pure rfl rfl rfl (fun w' hw' => Do_move (v := .bool true) rfl) ?_
      refine Mx.XL_offp rfl rfl rfl ?_
      refine Mx.XL_offp rfl rfl rfl ?_
      refine Mx.XL_offp rfl rfl rfl ?_
      refine Mx.XL_offr oS rfl rfl rfl ?_
      refine Mx.XL_offf oS rfl rfl rfl ?_
      refine Mx.XL_offp rfl rfl rfl ?_
      refine Mx.XL_offr oS rfl rfl rfl ?_
      refine Mx.XL_offp rfl rfl rfl ?_
      refine Mx.XL_pure rfl rfl rfl (fun w' hw' => Do_pick_t (v := .bool true) rfl rfl) ?_
      refine Mx.XL_nil fun w126 hS => ?_
      have H := H.sees hS
      have H := H120.rejoin H
      have hR := Option.some.inj hF
      subst hR
      refine (thenQ_n (And.intro ?_ ?_))
      · repeat' (first | with_reducible exact Fr_refl | refine Fr_upd rfl ?_ | refine Fr_over rfl rfl ?_)
      · exact ⟨(), (Sl_cons rfl Sl_nil), H.pick [0, 1] (by decide)⟩
    · have hF := iteB_f c125 hF
      refine Mx.XL_pure rfl rfl rfl (fun w' hw' => Do_move (v := .pointer v1) rfl) ?_
      obtain ⟨x127, e128, hF⟩ := bindO_some hF
      obtain ⟨b129, o130, cs131, q132, h133, h134, h135, h136⟩ := ptf_some ((H.item (i := 0) rfl) : PtF _ _ _ _ _) e128
      obtain rfl : cs131 = (Fl.arr 64 (Fl.int .u16)).f x127 := h135
      have H := H.fz (.at b129 o130 _) ⟨h133, h134, h136⟩
      refine Mx.XL_pure rfl rfl rfl (fun w' hw' => Do_nilCheck (ad := ⟨b129, o130, none⟩) (congrArg Value.pointer q132)) ?_
      obtain ⟨x138, e139, hF⟩ := bindO_some hF
      refine Mx.XL_pure rfl rfl rfl (fun w' hw' => Do_idxA (X := x127) u25 sz23 rfl rfl e139) ?_
      refine Mx.XL_read oS rfl rfl rfl (fun w' hw' => Do_load1 (v := .int .u16 x138) one23 rfl (Cells.ix (e := (Fl.int .u16)) (x := x127) ((H.sees hw').item (i := 2) rfl).2.2 e139)) ?_
      refine Mx.XL_pure rfl rfl rfl (fun w' hw' => Do_move (v := .pointer v1) rfl) ?_
      have H140 := H
      obtain ⟨x141, e142, hF⟩ := bindO_some hF
      refine Mx.XL_call oS rfl rfl rfl (v := .int .i64 x141) (fun w' hw' => DoC_func en91 rfl) (fun w' hw' => call_read (F_frame_numberOf_w p0 v1 _ e142 _ _ _ ((H.sees hw').enter [] [0] (by decide) rfl))) ?_
      have H := H140
      obtain ⟨x143, e144, hF⟩ := bindO_some hF
      refine Mx.XL_pure rfl rfl rfl (fun w' hw' => Do_rem' (j := x141) (q := 4) rfl rfl e144) ?_
      obtain ⟨x145, e146, hF⟩ := bindO_some hF
      refine Mx.XL_pure rfl rfl rfl (fun w' hw' => Do_idxA (X := G_frame_syncs) u111 sz23 rfl rfl e146) ?_
      refine Mx.XL_read oS rfl rfl rfl (fun w' hw' => Do_load1 (v := .int .u16 x145) one23 rfl (Cells.ix (e := (Fl.int .u16)) (x := G_frame_syncs) ((H.sees hw').item (i := 1) rfl).2.2 e146)) ?_
      obtain ⟨x147, e148, hF⟩ := letO_some hF
      refine Mx.XL_pure rfl rfl rfl (fun w' hw' => Do_as (Do_neq (a := x138) (b := x145) rfl rfl) (congrArg Value.bool e148)) ?_
      refine Mx.XL_pure rfl rfl rfl (fun w' hw' => Do_pick_f (v := .bool x147) rfl rfl) ?_
      refine Mx.XL_splitb (b := x147) rfl rfl rfl rfl (fun c149 => ?_) (fun c149 => ?_)
      · have hF := iteB_t c149 hF
        refine Mx.XL_offp rfl rfl rfl ?_
        refine Mx.XL_offp rfl rfl rfl ?_
        refine Mx.XL_offp rfl rfl rfl ?_
        refine Mx.XL_offr oS rfl rfl rfl ?_
        refine Mx.XL_offf oS rfl rfl rfl ?_
        refine Mx.XL_offp rfl rfl rfl ?_
        refine Mx.XL_offr oS rfl rfl rfl ?_
        refine Mx.XL_offp rfl rfl rfl ?_
        refine Mx.XL_pure rfl rfl rfl (fun w' hw' => Do_pick_t (v := .bool true) rfl rfl) ?_
        refine Mx.XL_nil fun w150 hS => ?_
        have H := H.sees hS
        have H := H120.rejoin H
        have hR := Option.some.inj hF
        subst hR
        refine (thenQ_n (And.intro ?_ ?_))
        · repeat' (first | with_reducible exact Fr_refl | refine Fr_upd rfl ?_ | refine Fr_over rfl rfl ?_)
        · exact ⟨(), (Sl_cons rfl Sl_nil), H.pick [0, 1] (by decide)⟩
      · have hF := iteB_f c149 hF
        refine Mx.XL_pure rfl rfl rfl (fun w' hw' => Do_move (v := .pointer v1) rfl) ?_
        obtain ⟨x151, e152, hF⟩ := bindO_some hF
        obtain ⟨b153, o154, cs155, q156, h157, h158, h159, h160⟩ := ptf_some ((H.item (i := 0) rfl) : PtF _ _ _ _ _) e152
        obtain rfl : cs155 = (Fl.arr 64 (Fl.int .u16)).f x151 := h159
        have H := H.fz (.at b153 o154 _) ⟨h157, h158, h160⟩
        refine Mx.XL_pure rfl rfl rfl (fun w' hw' => Do_nilCheck (ad := ⟨b153, o154, none⟩) (congrArg Value.pointer q156)) ?_
        obtain ⟨x162, e163, hF⟩ := bindO_some hF
        refine Mx.XL_pure rfl rfl rfl (fun w' hw' => Do_idxA (X := x151) u25 sz23 rfl rfl e163) ?_
        refine Mx.XL_read oS rfl rfl rfl (fun w' hw' => Do_load1 (v := .int .u16 x162) one23 rfl (Cells.ix (e := (Fl.int .u16)) (x := x151) ((H.sees hw').item (i := 3) rfl).2.2 e163)) ?_
        have H164 := H
        obtain ⟨x165, e166, hF⟩ := bindO_some hF
        refine Mx.XL_fcall oS rfl rfl rfl (v := .int .i64 x165) (fun w' hw' => DoC_func en85 rfl) (fun w' hw' => call_read (F_frame_data_w x162 _ e166 _ _ _ (Hd.fresh0 w'))) ?_
        have H := H164
        refine Mx.XL_pure rfl rfl rfl (fun w' hw' => Do_move (v := .pointer v1) rfl) ?_
        have H167 := H
        obtain ⟨x168, e169, hF⟩ := bindO_some hF
        refine Mx.XL_call oS rfl rfl rfl (v := .int .i64 x168) (fun w' hw' => DoC_func en92 rfl) (fun w' hw' => call_read (F_frame_sumOf_w p0 v1 _ e169 _ _ _ ((H.sees hw').enter [] [0] (by decide) rfl))) ?_
        have H := H167
        obtain ⟨x170, e171, hF⟩ := letO_some hF
        refine Mx.XL_pure rfl rfl rfl (fun w' hw' => Do_as (Do_neq (a := x165) (b := x168) rfl rfl) (congrArg Value.bool e171)) ?_
        refine Mx.XL_pure rfl rfl rfl (fun w' hw' => Do_pick_f (v := .bool x170) rfl rfl) ?_
        refine Mx.XL_nil fun w172 hS => ?_
        have H := H.sees hS
        have H := H120.rejoin H
        have hR := Option.some.inj hF
        subst hR
        refine (thenQ_n (And.intro ?_ ?_))
        · repeat' (first | with_reducible exact Fr_refl | refine Fr_upd rfl ?_ | refine Fr_over rfl rfl ?_)
        · exact ⟨(), (Sl_cons rfl Sl_nil), H.pick [0, 1] (by decide)⟩
  · rintro _ ρ w118 H
    have hF := hK119
    refine WP_ifb (b := g117) rfl (fun c173 => ?_) (fun c173 => ?_)
    · have hF := iteB_t c173 hF
      refine WP_seq_k fun K174 hK174 => ?_
      refine WP_region ?_
      refine RL_do rfl rfl (Do_assign (v := .bool false) rfl) ?_
      refine (RL_nil (thenQ_n (hK174 _ _ ?_)))
      have hR := Option.some.inj hF
      subst hR
      refine (WP_ret (thenQ_r (post1 (v1 := .bool false) rfl rfl ?_)))
      exact ⟨rfl, H.pick [] (by decide)⟩
    · have hF := iteB_f c173 hF
      refine (WP_skip (thenQ_n (hK63 _ _ ?_)))
      obtain ⟨k300, ek301, hF⟩ := joinO_some hF
      refine WP_seqS [2, 3, 28, 29, 30, 31, 32, 33, 34, 35, 36, 37, 38] (fun (g : Unit) => []) (fun g wl => Hd O w wl S [.fz (.pt (Rp.fl (Fl.arr 64 (Fl.int .u16))) v1 p0), .fz (.at 0 0 ((Fl.arr 4 (Fl.int .u16)).f G_frame_syncs))] ∧ k300 () = some r) ?_ ?_
      · skip
        refine WP_seq_k fun K302 hK302 => ?_
        refine WP_region ?_
        refine RL_do rfl rfl (Do_assign (v := .int .i64 1) rfl) ?_
        refine (RL_nil (thenQ_n (hK302 _ _ ?_)))
        refine WP_block ?_
        unfold F_frame_sound_L1 at hF
        obtain ⟨B421, n422, eB423, hF⟩ := loopO_some hF
        refine WP_loopS [2, 3, 28, 29, 30, 31, 32, 33, 34, 35, 36, 37, 38] (fun (g : Nat × Int) => [(3, .int .i64 g.2)]) (fun g wl => Hd O w wl S [.fz (.pt (Rp.fl (Fl.arr 64 (Fl.int .u16))) v1 p0), .fz (.at 0 0 ((Fl.arr 4 (Fl.int .u16)).f G_frame_syncs))] ∧ loopN B421 g.1 g.2 = some r) (fun g => g.1) (n422, 1) (Sl_cons rfl Sl_nil) ⟨H.pick [0, 1] (by decide), hF⟩ ?_
        clear H hF
        rintro ⟨n422, g420⟩ ρ w425 ⟨H, hF⟩
        obtain ⟨n426, rfl, hF⟩ := loopN_pos hF
        have hF := loop_body eB423 hF
        refine WP_seq_k fun K431 hK431 => ?_
        refine WP_seq_k fun K432 hK432 => ?_
        refine WP_region ?_
        refine RL_do rfl rfl (Do_move (v := .int .i64 g420) rfl) ?_
        obtain ⟨x433, e434, hF⟩ := letO_some hF
        refine RL_do rfl rfl (Do_as (Do_lss (a := g420) (b := 64) rfl rfl) (congrArg Value.bool e434)) ?_
        refine (RL_nil (thenQ_n (hK432 _ _ ?_)))
        refine WP_ifb (b := x433) rfl (fun c435 => ?_) (fun c435 => ?_)
        · have hF := iteB_t c435 hF
          refine (WP_skip (thenQ_n (hK431 _ _ ?_)))
          refine WP_seq_k fun K459 hK459 => ?_
          refine WP_block ?_
          refine WP_seq_k fun K460 hK460 => ?_
          refine WP_region ?_
          refine RL_do rfl rfl (Do_move (v := .pointer v1) rfl) ?_
          refine RL_do rfl rfl (Do_move (v := .int .i64 g420) rfl) ?_
          obtain ⟨x461, e462, hF⟩ := bindO_some hF
          obtain ⟨b463, o464, cs465, q466, h467, h468, h469, h470⟩ := ptf_some ((H.item (i := 0) rfl) : PtF _ _ _ _ _) e462
          obtain rfl : cs465 = (Fl.arr 64 (Fl.int .u16)).f x461 := h469
          have H := H.fz (.at b463 o464 _) ⟨h467, h468, h470⟩
          refine RL_do rfl rfl (Do_nilCheck (ad := ⟨b463, o464, none⟩) (congrArg Value.pointer q466)) ?_
          obtain ⟨x472, e473, hF⟩ := bindO_some hF
          refine RL_do rfl rfl (Do_idxA (X := x461) u25 sz23 rfl rfl e473) ?_
          refine RL_do rfl rfl (Do_load1 (v := .int .u16 x472) one23 rfl (Cells.ix (e := (Fl.int .u16)) (x := x461) (H.item (i := 2) rfl).2.2 e473)) ?_
          have H474 := H
          obtain ⟨x475, e476, hF⟩ := bindO_some hF
          refine RL_call rfl rfl (DoC_func en86 rfl) (F_frame_odd_w x472 _ e476 _ _ _ (H.enter [] [] (by decide) rfl)) ?_
          rintro _ w477 ⟨rfl, G478⟩
          have H := H474.step (G478.only : Only [] _ _)
          refine ⟨_, rfl, ?_⟩
          obtain ⟨x479, e480, hF⟩ := letO_some hF
          refine RL_do rfl rfl (Do_as (Do_not (p := x475) rfl) (congrArg Value.bool e480)) ?_
          refine (RL_nil (thenQ_n (hK460 _ _ ?_)))
          refine WP_ifb (b := x479) rfl (fun c481 => ?_) (fun c481 => ?_)
          · have hF := iteB_t c481 hF
            refine WP_seq_k fun K482 hK482 => ?_
            refine WP_region ?_
            refine RL_do rfl rfl (Do_assign (v := .bool false) rfl) ?_
            refine (RL_nil (thenQ_n (hK482 _ _ ?_)))
            have hR := Option.some.inj hF
            subst hR
            refine (WP_ret (blockQ_r (thenQ_r (thenQ_r (blockQ_r (thenQ_r (post1 (v1 := .bool false) rfl rfl ?_)))))))
            exact ⟨rfl, H.pick [] (by decide)⟩
          · have hF := iteB_f c481 hF
            refine (WP_skip (blockQ_n (thenQ_n (hK459 _ _ ?_))))
            refine WP_region ?_
            refine RL_do rfl rfl (Do_move (v := .int .i64 g420) rfl) ?_
            obtain ⟨x483, e484, hF⟩ := letO_some hF
            refine RL_do rfl rfl (Do_add (a := g420) (b := 1) rfl rfl e484) ?_
            refine RL_do rfl rfl (Do_assign (v := .int .i64 x483) rfl) ?_
            refine (RL_nil (thenQ_n (And.intro ?_ ?_)))
            · repeat' (first | with_reducible exact Fr_refl | refine Fr_upd rfl ?_ | refine Fr_over rfl rfl ?_)
            · exact ⟨(n426, x483), (Sl_cons rfl Sl_nil), ⟨H.pick [0, 1] (by decide), hF⟩, Nat.lt_succ_self _⟩
        · have hF := iteB_f c435 hF
          refine (WP_exit (thenQ_x (thenQ_x (blockQ_eq (thenQ_n (And.intro ?_ ?_))))))
          · repeat' (first | with_reducible exact Fr_refl | refine Fr_upd rfl ?_ | refine Fr_over rfl rfl ?_)
          · exact ⟨(), Sl_nil, ⟨H.pick [0, 1] (by decide), hF⟩⟩
      · rintro _ ρ w299 ⟨H, hF⟩
        have hF := join_body ek301 hF
        refine WP_seq_k fun K485 hK485 => ?_
        have H486 := H
        have H := H.rebase
        have H487 := H
        refine WP_mix0 H [0, 1, 2, 3, 4, 5, 6, 7, 8, 9, 10, 11, 12, 13, 14, 15] [.pure, .pure, .pure, .read, .fcall, .pure, .pure, .pure, .pure, .read, .fcall, .pure, .pure, .read, .pure, .pure] mixed (by kernel_rfl) (by kernel_rfl) (by kernel_rfl) rfl ?_
        refine Mx.XL_pure rfl rfl rfl (fun w' hw' => Do_move (v := .pointer v1) rfl) ?_
        obtain ⟨x488, e489, hF⟩ := bindO_some hF
        obtain ⟨b490, o491, cs492, q493, h494, h495, h496, h497⟩ := ptf_some ((H.item (i := 0) rfl) : PtF _ _ _ _ _) e489
        obtain rfl : cs492 = (Fl.arr 64 (Fl.int .u16)).f x488 := h496
        have H := H.fz (.at b490 o491 _) ⟨h494, h495, h497⟩
        refine Mx.XL_pure rfl rfl rfl (fun w' hw' => Do_nilCheck (ad := ⟨b490, o491, none⟩) (congrArg Value.pointer q493)) ?_
        obtain ⟨x499, e500, hF⟩ := bindO_some hF
        refine Mx.XL_pure rfl rfl rfl (fun w' hw' => Do_idxA (X := x488) u25 sz23 rfl rfl e500) ?_
        refine Mx.XL_read oS rfl rfl rfl (fun w' hw' => Do_load1 (v := .int .u16 x499) one23 rfl (Cells.ix (e := (Fl.int .u16)) (x := x488) ((H.sees hw').item (i := 2) rfl).2.2 e500)) ?_
        have H501 := H
        obtain ⟨x502, e503, hF⟩ := bindO_some hF
        refine Mx.XL_fcall oS rfl rfl rfl (v := .int .i64 x502) (fun w' hw' => DoC_func en85 rfl) (fun w' hw' => call_read (F_frame_data_w x499 _ e503 _ _ _ (Hd.fresh0 w'))) ?_
        have H := H501
        obtain ⟨x504, e505, hF⟩ := bindO_some hF
        refine Mx.XL_pure rfl rfl rfl (fun w' hw' => Do_shl' (j := x502) (q := 11) rfl rfl e505) ?_
        refine Mx.XL_pure rfl rfl rfl (fun w' hw' => Do_move (v := .pointer v1) rfl) ?_
        obtain ⟨x506, e507, hF⟩ := bindO_some hF
        obtain ⟨b508, o509, cs510, q511, h512, h513, h514, h515⟩ := ptf_some ((H.item (i := 0) rfl) : PtF _ _ _ _ _) e507
        obtain rfl : cs510 = (Fl.arr 64 (Fl.int .u16)).f x506 := h514
        have H := H.fz (.at b508 o509 _) ⟨h512, h513, h515⟩
        refine Mx.XL_pure rfl rfl rfl (fun w' hw' => Do_nilCheck (ad := ⟨b508, o509, none⟩) (congrArg Value.pointer q511)) ?_
        obtain ⟨x517, e518, hF⟩ := bindO_some hF
        refine Mx.XL_pure rfl rfl rfl (fun w' hw' => Do_idxA (X := x506) u25 sz23 rfl rfl e518) ?_
        refine Mx.XL_read oS rfl rfl rfl (fun w' hw' => Do_load1 (v := .int .u16 x517) one23 rfl (Cells.ix (e := (Fl.int .u16)) (x := x506) ((H.sees hw').item (i := 3) rfl).2.2 e518)) ?_
        have H519 := H
        obtain ⟨x520, e521, hF⟩ := bindO_some hF
        refine Mx.XL_fcall oS rfl rfl rfl (v := .int .i64 x520) (fun w' hw' => DoC_func en85 rfl) (fun w' hw' => call_read (F_frame_data_w x517 _ e521 _ _ _ (Hd.fresh0 w'))) ?_
        have H := H519
        obtain ⟨x522, e523, hF⟩ := letO_some hF
        refine Mx.XL_pure rfl rfl rfl (fun w' hw' => Do_or (a := x504) (b := x520) rfl rfl e523) ?_
        refine Mx.XL_pure rfl rfl rfl (fun w' hw' => Do_move (v := .pointer v1) rfl) ?_
        have H524 := H
        obtain ⟨x525, e526, hF⟩ := bindO_some hF
        refine Mx.XL_call oS rfl rfl rfl (v := .int .i64 x525) (fun w' hw' => DoC_func en93 rfl) (fun w' hw' => call_read (F_frame_checkOf_w p0 v1 _ e526 _ _ _ ((H.sees hw').enter [] [0] (by decide) rfl))) ?_
        have H := H524
        obtain ⟨x527, e528, hF⟩ := letO_some hF
        refine Mx.XL_pure rfl rfl rfl (fun w' hw' => Do_as (Do_eql (a := x522) (b := x525) rfl rfl) (congrArg Value.bool e528)) ?_
        refine Mx.XL_pure rfl rfl rfl (fun w' hw' => Do_assign (v := .bool x527) rfl) ?_
        refine Mx.XL_nil fun w529 hS => ?_
        have H := H.sees hS
        have H := H486.rejoin H
        refine (thenQ_n (hK485 _ _ ?_))
        have hR := Option.some.inj hF
        subst hR
        refine (WP_ret (post1 (v1 := .bool x527) rfl rfl ?_))
        exact ⟨rfl, H.pick [] (by decide)⟩
end Go.Proofs.YtafgmocdnjdmoaaDoor.L
namespace Go.Proofs.YtafgmocdnjdmoaaDoor.L
open Go.RowKit Go.OB Go.Lf
/- orangebox/frame.word -/
set_option maxHeartbeats 4000000 in
theorem F_frame_word_w (p0 : Int) (r : Int) (hF : F_frame_word p0 = some r) (O S : List Nat) (w : World) (H : Hd O w w S []) :
    Calls Tryd.prog 83 ([.int .i64 p0] : List Value).toArray w fun e w' => e = .returned (.int .u16 r) ∧ Hd O w w' S [] := by
  unfold F_frame_word at hF
  refine calls_of_WP 12 Tryd.func83 rfl rfl rfl ?_
  refine WP_seq_k fun K1 hK1 => ?_
  refine WP_region ?_
  refine RL_do rfl rfl (Do_assign (v := .int .u16 0) rfl) ?_
  refine (RL_nil (thenQ_n (hK1 _ _ ?_)))
  refine WP_seq_k fun K2 hK2 => ?_
  refine WP_region ?_
  refine RL_do rfl rfl (Do_move (v := .int .i64 p0) rfl) ?_
  obtain ⟨x3, e4, hF⟩ := letO_some hF
  refine RL_do rfl rfl (Do_conv u3 u23 rfl e4) ?_
  refine RL_do rfl rfl (Do_assign (v := .int .u16 x3) rfl) ?_
  refine (RL_nil (thenQ_n (hK2 _ _ ?_)))
  obtain ⟨g16, hF, hK18⟩ := bindO_some hF
  refine WP_seqS [3, 6, 7, 8, 9, 10] (fun (g : Unit) => [(3, .int .u16 g16)]) (fun g wl => Hd O w wl S []) ?_ ?_
  · skip
    refine WP_seq_k fun K19 hK19 => ?_
    refine WP_region ?_
    refine RL_do rfl rfl (Do_move (v := .int .u16 x3) rfl) ?_
    have H20 := H
    obtain ⟨x21, e22, hF⟩ := bindO_some hF
    refine RL_call rfl rfl (DoC_func en86 rfl) (F_frame_odd_w x3 _ e22 _ _ _ (H.enter [] [] (by decide) rfl)) ?_
    rintro _ w23 ⟨rfl, G24⟩
    have H := H20.step (G24.only : Only [] _ _)
    refine ⟨_, rfl, ?_⟩
    obtain ⟨x25, e26, hF⟩ := letO_some hF
    refine RL_do rfl rfl (Do_as (Do_not (p := x21) rfl) (congrArg Value.bool e26)) ?_
    refine (RL_nil (thenQ_n (hK19 _ _ ?_)))
    refine WP_ifb (b := x25) rfl (fun c27 => ?_) (fun c27 => ?_)
    · have hF := iteB_t c27 hF
      refine WP_region ?_
      refine RL_do rfl rfl (Do_move (v := .int .u16 x3) rfl) ?_
      obtain ⟨x28, e29, hF⟩ := letO_some hF
      refine RL_do rfl rfl (Do_or (a := x3) (b := 2048) rfl rfl e29) ?_
      refine RL_do rfl rfl (Do_assign (v := .int .u16 x28) rfl) ?_
      have hR := Option.some.inj hF
      subst hR
      refine (RL_nil (thenQ_n (And.intro ?_ ?_)))
      · repeat' (first | with_reducible exact Fr_refl | refine Fr_upd rfl ?_ | refine Fr_over rfl rfl ?_)
      · exact ⟨(), (Sl_cons rfl Sl_nil), H.pick [] (by decide)⟩
    · have hF := iteB_f c27 hF
      have hR := Option.some.inj hF
      subst hR
      refine (WP_skip (thenQ_n (And.intro ?_ ?_)))
      · repeat' (first | with_reducible exact Fr_refl | refine Fr_upd rfl ?_ | refine Fr_over rfl rfl ?_)
      · exact ⟨(), (Sl_cons rfl Sl_nil), H.pick [] (by decide)⟩
  · rintro _ ρ w17 H
    have hF := hK18
    refine WP_seq_k fun K30 hK30 => ?_
    refine WP_region ?_
    refine RL_do rfl rfl (Do_move (v := .int .u16 g16) rfl) ?_
    refine RL_do rfl rfl (Do_assign (v := .int .u16 g16) rfl) ?_
    refine (RL_nil (thenQ_n (hK30 _ _ ?_)))
    have hR := Option.some.inj hF
    subst hR
    refine (WP_ret (post1 (v1 := .int .u16 g16) rfl rfl ?_))
    exact ⟨rfl, H.pick [] (by decide)⟩
end Go.Proofs.YtafgmocdnjdmoaaDoor.L
namespace Go.Proofs.YtafgmocdnjdmoaaDoor.L
open Go.RowKit Go.OB Go.Lf
/- orangebox/frame.replaced -/
set_option maxHeartbeats 4000000 in
theorem F_frame_replaced_w (p0 : Arr 64 Int) (p1 : Int) (r : (Arr 64 Int)) (hF : F_frame_replaced p0 p1 = some r) (O S : List Nat) (w : World) (H : Hd O w w S [.fz (.at 0 0 ((Fl.arr 4 (Fl.int .u16)).f G_frame_syncs))]) :
    Calls Tryd.prog 97 ([.agg ((Fl.arr 64 (Fl.int .u16)).f p0).toArray, .int .i64 p1] : List Value).toArray w fun e w' => e = .returned (.agg ((Fl.arr 64 (Fl.int .u16)).f r).toArray) ∧ Hd O w w' S [] := by
  unfold F_frame_replaced at hF
  refine calls_of_WP 47 Tryd.func97 rfl rfl rfl ?_
  refine WP_seq_k fun K2 hK2 => ?_
  refine WP_region ?_
  refine RL_ex rfl rfl (Lx_box (cs := (Fl.arr 64 (Fl.int .u16)).f p0) rfl H) ?_
  rintro _ w5 ⟨b3, rfl, H⟩
  refine RL_ex rfl rfl (Lx_alloc zero25 H) ?_
  rintro _ w8 ⟨b6, rfl, H⟩
  refine (RL_nil (thenQ_n (hK2 _ _ ?_)))
  obtain ⟨g122, hF, hK124⟩ := bindO_some hF
  refine WP_seqS [5, 6, 7, 8, 9, 10, 11, 12, 13, 14, 15, 16, 17, 18, 19, 20, 21, 22, 23, 24, 25, 26, 27, 28, 29, 30, 31, 32, 33, 34, 35, 36, 37, 38, 39, 40, 41, 42, 43, 44, 45] (fun (g : Unit) => []) (fun g wl => Hd O w wl S [.fz (.at 0 0 ((Fl.arr 4 (Fl.int .u16)).f G_frame_syncs)), .blk b3 ((Fl.arr 64 (Fl.int .u16)).f g122) 25, .blk b6 ((Fl.arr 64 (Fl.int .u16)).f (Arr.rep 64 0 : Arr 64 Int)) 25]) ?_ ?_
  · skip
    refine WP_seq_k fun K125 hK125 => ?_
    refine WP_region ?_
    refine RL_do rfl rfl (Do_move (v := .int .i64 p1) rfl) ?_
    refine (RL_nil (thenQ_n (hK125 _ _ ?_)))
    refine WP_block ?_
    refine WP_seq_k fun K126 hK126 => ?_
    refine WP_region ?_
    obtain ⟨x127, e128, hF⟩ := letO_some hF
    refine RL_do rfl rfl (Do_as (Do_eql (a := p1) (b := 0) rfl rfl) (congrArg Value.bool e128)) ?_
    refine RL_do rfl rfl (Do_assign (v := .bool x127) rfl) ?_
    refine (RL_nil (thenQ_n (hK126 _ _ ?_)))
    refine WP_ifb (b := x127) rfl (fun c129 => ?_) (fun c129 => ?_)
    · have hF := iteB_t c129 hF
      refine WP_region ?_
      have H130 := H
      have H := H.freezeB (i := 1) rfl
      have H := H.fz (.pt (Rp.fl (Fl.arr 64 (Fl.int .u16))) (some ⟨b3, 0, none⟩) (some p0)) ⟨_, _, _, rfl, (H.item (i := 1) rfl).1, (H.item (i := 1) rfl).2.1, rfl, (H.item (i := 1) rfl).2.2⟩
      obtain ⟨x132, e133, hF⟩ := bindO_some hF
      refine RL_call rfl rfl (DoC_func en91 rfl) (F_frame_numberOf_w (some p0) (some ⟨b3, 0, none⟩) _ e133 _ _ _ (H.enter [] [3] (by decide) rfl)) ?_
      rintro _ w134 ⟨rfl, G135⟩
      have H := H130.step (G135.only : Only [] _ _)
      refine ⟨_, rfl, ?_⟩
      obtain ⟨x136, e137, hF⟩ := bindO_some hF
      refine RL_do rfl rfl (Do_rem' (j := x132) (q := 4) rfl rfl e137) ?_
      obtain ⟨x138, e139, hF⟩ := bindO_some hF
      refine RL_do rfl rfl (Do_idxA (X := G_frame_syncs) u111 sz23 rfl rfl e139) ?_
      refine RL_do rfl rfl (Do_load1 (v := .int .u16 x138) one23 rfl (Cells.ix (e := (Fl.int .u16)) (x := G_frame_syncs) (H.item (i := 0) rfl).2.2 e139)) ?_
      obtain ⟨x140, e141, hF⟩ := bindO_some hF
      refine RL_do rfl rfl (Do_idxA (X := p0) u25 sz23 rfl rfl e141) ?_
      obtain ⟨x142, e143, hF⟩ := letO_some hF
      refine RL_exU rfl (Lx_storeA (e := (Fl.int .u16)) (X := p0) (a := x138) (j := 0) H 1 rfl sz23 rfl (v := .int .u16 x138) rfl rfl (Arr.at_lt e141).1 (Arr.at_lt e141).2 e143) ?_
      rintro w144 H
      have hR := Option.some.inj hF
      subst hR
      refine (RL_nil (blockQ_n (thenQ_n (And.intro ?_ ?_))))
      · repeat' (first | with_reducible exact Fr_refl | refine Fr_upd rfl ?_ | refine Fr_over rfl rfl ?_)
      · exact ⟨(), Sl_nil, H.pick [0, 1, 2] (by decide)⟩
    · have hF := iteB_f c129 hF
      refine WP_seq_k fun K145 hK145 => ?_
      refine WP_region ?_
      obtain ⟨x146, e147, hF⟩ := letO_some hF
      refine RL_do rfl rfl (Do_as (Do_eql (a := p1) (b := 61) rfl rfl) (congrArg Value.bool e147)) ?_
      refine RL_do rfl rfl (Do_assign (v := .bool x146) rfl) ?_
      refine (RL_nil (thenQ_n (hK145 _ _ ?_)))
      refine WP_ifb (b := x146) rfl (fun c148 => ?_) (fun c148 => ?_)
      · have hF := iteB_t c148 hF
        refine WP_region ?_
        refine RL_do rfl rfl (Do_move (v := .int .i64 p1) rfl) ?_
        have H149 := H
        have H := H.freezeB (i := 1) rfl
        have H := H.fz (.pt (Rp.fl (Fl.arr 64 (Fl.int .u16))) (some ⟨b3, 0, none⟩) (some p0)) ⟨_, _, _, rfl, (H.item (i := 1) rfl).1, (H.item (i := 1) rfl).2.1, rfl, (H.item (i := 1) rfl).2.2⟩
        obtain ⟨x151, e152, hF⟩ := bindO_some hF
        refine RL_call rfl rfl (DoC_func en92 rfl) (F_frame_sumOf_w (some p0) (some ⟨b3, 0, none⟩) _ e152 _ _ _ (H.enter [] [3] (by decide) rfl)) ?_
        rintro _ w153 ⟨rfl, G154⟩
        have H := H149.step (G154.only : Only [] _ _)
        refine ⟨_, rfl, ?_⟩
        have H155 := H
        obtain ⟨x156, e157, hF⟩ := bindO_some hF
        refine RL_call rfl rfl (DoC_func en83 rfl) (F_frame_word_w x151 _ e157 _ _ _ (H.enter [] [] (by decide) rfl)) ?_
        rintro _ w158 ⟨rfl, G159⟩
        have H := H155.step (G159.only : Only [] _ _)
        refine ⟨_, rfl, ?_⟩
        obtain ⟨x160, e161, hF⟩ := bindO_some hF
        refine RL_do rfl rfl (Do_idxA (X := p0) u25 sz23 rfl rfl e161) ?_
        obtain ⟨x162, e163, hF⟩ := letO_some hF
        refine RL_exU rfl (Lx_storeA (e := (Fl.int .u16)) (X := p0) (a := x156) (j := p1) H 1 rfl sz23 rfl (v := .int .u16 x156) rfl rfl (Arr.at_lt e161).1 (Arr.at_lt e161).2 e163) ?_
        rintro w164 H
        have hR := Option.some.inj hF
        subst hR
        refine (RL_nil (blockQ_n (thenQ_n (And.intro ?_ ?_))))
        · repeat' (first | with_reducible exact Fr_refl | refine Fr_upd rfl ?_ | refine Fr_over rfl rfl ?_)
        · exact ⟨(), Sl_nil, H.pick [0, 1, 2] (by decide)⟩
      · have hF := iteB_f c148 hF
        refine WP_seq_k fun K165 hK165 => ?_
        refine WP_region ?_
        obtain ⟨x166, e167, hF⟩ := letO_some hF
        refine RL_do rfl rfl (Do_as (Do_eql (a := p1) (b := 62) rfl rfl) (congrArg Value.bool e167)) ?_
        refine RL_do rfl rfl (Do_assign (v := .bool x166) rfl) ?_
        refine (RL_nil (thenQ_n (hK165 _ _ ?_)))
        refine WP_ifb (b := x166) rfl (fun c168 => ?_) (fun c168 => ?_)
        · have hF := iteB_t c168 hF
          refine WP_region ?_
          refine RL_do rfl rfl (Do_move (v := .int .i64 p1) rfl) ?_
          have H169 := H
          have H := H.freezeB (i := 1) rfl
          have H := H.fz (.pt (Rp.fl (Fl.arr 64 (Fl.int .u16))) (some ⟨b3, 0, none⟩) (some p0)) ⟨_, _, _, rfl, (H.item (i := 1) rfl).1, (H.item (i := 1) rfl).2.1, rfl, (H.item (i := 1) rfl).2.2⟩
          obtain ⟨x171, e172, hF⟩ := bindO_some hF
          refine RL_call rfl rfl (DoC_func en93 rfl) (F_frame_checkOf_w (some p0) (some ⟨b3, 0, none⟩) _ e172 _ _ _ (H.enter [] [3] (by decide) rfl)) ?_
          rintro _ w173 ⟨rfl, G174⟩
          have H := H169.step (G174.only : Only [] _ _)
          refine ⟨_, rfl, ?_⟩
          obtain ⟨x175, e176, hF⟩ := bindO_some hF
          refine RL_do rfl rfl (Do_shr' (j := x171) (q := 11) rfl rfl e176) ?_
          have H177 := H
          obtain ⟨x178, e179, hF⟩ := bindO_some hF
          refine RL_call rfl rfl (DoC_func en83 rfl) (F_frame_word_w x175 _ e179 _ _ _ (H.enter [] [] (by decide) rfl)) ?_
          rintro _ w180 ⟨rfl, G181⟩
          have H := H177.step (G181.only : Only [] _ _)
          refine ⟨_, rfl, ?_⟩
          obtain ⟨x182, e183, hF⟩ := bindO_some hF
          refine RL_do rfl rfl (Do_idxA (X := p0) u25 sz23 rfl rfl e183) ?_
          obtain ⟨x184, e185, hF⟩ := letO_some hF
          refine RL_exU rfl (Lx_storeA (e := (Fl.int .u16)) (X := p0) (a := x178) (j := p1) H 1 rfl sz23 rfl (v := .int .u16 x178) rfl rfl (Arr.at_lt e183).1 (Arr.at_lt e183).2 e185) ?_
          rintro w186 H
          have hR := Option.some.inj hF
          subst hR
          refine (RL_nil (blockQ_n (thenQ_n (And.intro ?_ ?_))))
          · repeat' (first | with_reducible exact Fr_refl | refine Fr_upd rfl ?_ | refine Fr_over rfl rfl ?_)
          · exact ⟨(), Sl_nil, H.pick [0, 1, 2] (by decide)⟩
        · have hF := iteB_f c168 hF
          refine WP_seq_k fun K187 hK187 => ?_
          refine WP_region ?_
          obtain ⟨x188, e189, hF⟩ := letO_some hF
          refine RL_do rfl rfl (Do_as (Do_eql (a := p1) (b := 63) rfl rfl) (congrArg Value.bool e189)) ?_
          refine RL_do rfl rfl (Do_assign (v := .bool x188) rfl) ?_
          refine (RL_nil (thenQ_n (hK187 _ _ ?_)))
          refine WP_ifb (b := x188) rfl (fun c190 => ?_) (fun c190 => ?_)
          · have hF := iteB_t c190 hF
            refine WP_region ?_
            refine RL_do rfl rfl (Do_move (v := .int .i64 p1) rfl) ?_
            have H191 := H
            have H := H.freezeB (i := 1) rfl
            have H := H.fz (.pt (Rp.fl (Fl.arr 64 (Fl.int .u16))) (some ⟨b3, 0, none⟩) (some p0)) ⟨_, _, _, rfl, (H.item (i := 1) rfl).1, (H.item (i := 1) rfl).2.1, rfl, (H.item (i := 1) rfl).2.2⟩
            obtain ⟨x193, e194, hF⟩ := bindO_some hF
            refine RL_call rfl rfl (DoC_func en93 rfl) (F_frame_checkOf_w (some p0) (some ⟨b3, 0, none⟩) _ e194 _ _ _ (H.enter [] [3] (by decide) rfl)) ?_
            rintro _ w195 ⟨rfl, G196⟩
            have H := H191.step (G196.only : Only [] _ _)
            refine ⟨_, rfl, ?_⟩
            obtain ⟨x197, e198, hF⟩ := letO_some hF
            refine RL_do rfl rfl (Do_and (a := x193) (b := 2047) rfl rfl e198) ?_
            have H199 := H
            obtain ⟨x200, e201, hF⟩ := bindO_some hF
            refine RL_call rfl rfl (DoC_func en83 rfl) (F_frame_word_w x197 _ e201 _ _ _ (H.enter [] [] (by decide) rfl)) ?_
            rintro _ w202 ⟨rfl, G203⟩
            have H := H199.step (G203.only : Only [] _ _)
            refine ⟨_, rfl, ?_⟩
            obtain ⟨x204, e205, hF⟩ := bindO_some hF
            refine RL_do rfl rfl (Do_idxA (X := p0) u25 sz23 rfl rfl e205) ?_
            obtain ⟨x206, e207, hF⟩ := letO_some hF
            refine RL_exU rfl (Lx_storeA (e := (Fl.int .u16)) (X := p0) (a := x200) (j := p1) H 1 rfl sz23 rfl (v := .int .u16 x200) rfl rfl (Arr.at_lt e205).1 (Arr.at_lt e205).2 e207) ?_
            rintro w208 H
            have hR := Option.some.inj hF
            subst hR
            refine (RL_nil (blockQ_n (thenQ_n (And.intro ?_ ?_))))
            · repeat' (first | with_reducible exact Fr_refl | refine Fr_upd rfl ?_ | refine Fr_over rfl rfl ?_)
            · exact ⟨(), Sl_nil, H.pick [0, 1, 2] (by decide)⟩
          · have hF := iteB_f c190 hF
            have H209 := H
            have H := H.rebase
            have H210 := H
            refine WP_mix0 H [0, 1, 2, 3, 4, 5, 6, 7, 8, 9, 10, 11, 12, 13] [.pure, .read, .pure, .pure, .read, .fcall, .pure, .pure, .read, .fcall, .pure, .fcall, .pure, .eff] mixed (by kernel_rfl) (by kernel_rfl) (by kernel_rfl) rfl ?_
            refine Mx.XL_pure rfl rfl rfl (fun w' hw' => Do_move (v := .int .i64 p1) rfl) ?_
            have H211 := H
            have H := H.freezeB (i := 1) rfl
            have H := H.fz (.pt (Rp.fl (Fl.arr 64 (Fl.int .u16))) (some ⟨b3, 0, none⟩) (some p0)) ⟨_, _, _, rfl, (H.item (i := 1) rfl).1, (H.item (i := 1) rfl).2.1, rfl, (H.item (i := 1) rfl).2.2⟩
            obtain ⟨x213, e214, hF⟩ := bindO_some hF
            refine Mx.XL_call oS rfl rfl rfl (v := .int .i64 x213) (fun w' hw' => DoC_func en92 rfl) (fun w' hw' => call_read (F_frame_sumOf_w (some p0) (some ⟨b3, 0, none⟩) _ e214 _ _ _ ((H.sees hw').enter [] [3] (by decide) rfl))) ?_
            have H := H211
            refine Mx.XL_pure rfl rfl rfl (fun w' hw' => Do_move (v := .int .i64 p1) rfl) ?_
            obtain ⟨x215, e216, hF⟩ := bindO_some hF
            refine Mx.XL_pure rfl rfl rfl (fun w' hw' => Do_idxA (X := p0) u25 sz23 rfl rfl e216) ?_
            refine Mx.XL_read oS rfl rfl rfl (fun w' hw' => Do_load1 (v := .int .u16 x215) one23 rfl (Cells.ix (e := (Fl.int .u16)) (x := p0) (Blk.cells ((H.sees hw').item (i := 1) rfl)) e216)) ?_
            have H217 := H
            obtain ⟨x218, e219, hF⟩ := bindO_some hF
            refine Mx.XL_fcall oS rfl rfl rfl (v := .int .i64 x218) (fun w' hw' => DoC_func en85 rfl) (fun w' hw' => call_read (F_frame_data_w x215 _ e219 _ _ _ (Hd.fresh0 w'))) ?_
            have H := H217
            obtain ⟨x220, e221, hF⟩ := letO_some hF
            refine Mx.XL_pure rfl rfl rfl (fun w' hw' => Do_xor (a := x213) (b := x218) rfl rfl e221) ?_
            obtain ⟨x222, e223, hF⟩ := bindO_some hF
            refine Mx.XL_pure rfl rfl rfl (fun w' hw' => Do_idxA (X := p0) u25 sz23 rfl rfl e223) ?_
            refine Mx.XL_read oS rfl rfl rfl (fun w' hw' => Do_load1 (v := .int .u16 x222) one23 rfl (Cells.ix (e := (Fl.int .u16)) (x := p0) (Blk.cells ((H.sees hw').item (i := 1) rfl)) e223)) ?_
            have H224 := H
            obtain ⟨x225, e226, hF⟩ := bindO_some hF
            refine Mx.XL_fcall oS rfl rfl rfl (v := .int .i64 x225) (fun w' hw' => DoC_func en85 rfl) (fun w' hw' => call_read (F_frame_data_w x222 _ e226 _ _ _ (Hd.fresh0 w'))) ?_
            have H := H224
            obtain ⟨x227, e228, hF⟩ := letO_some hF
            refine Mx.XL_pure rfl rfl rfl (fun w' hw' => Do_xor (a := x220) (b := x225) rfl rfl e228) ?_
            have H229 := H
            obtain ⟨x230, e231, hF⟩ := bindO_some hF
            refine Mx.XL_fcall oS rfl rfl rfl (v := .int .u16 x230) (fun w' hw' => DoC_func en83 rfl) (fun w' hw' => call_read (F_frame_word_w x227 _ e231 _ _ _ (Hd.fresh0 w'))) ?_
            have H := H229
            obtain ⟨x232, e233, hF⟩ := bindO_some hF
            refine Mx.XL_pure rfl rfl rfl (fun w' hw' => Do_idxA (X := p0) u25 sz23 rfl rfl e233) ?_
            obtain ⟨x234, e235, hF⟩ := letO_some hF
            refine Mx.XL_exU oS rfl rfl (fun w' hw' => Lx_storeA (e := (Fl.int .u16)) (X := p0) (a := x230) (j := p1) (H.sees hw') 1 rfl sz23 rfl (v := .int .u16 x230) rfl rfl (Arr.at_lt e233).1 (Arr.at_lt e233).2 e235) ?_
            rintro w' w236 hw' H
            refine ⟨H.only, ?_⟩
            refine Mx.XL_nil fun w237 hS => ?_
            have H := H.sees hS
            have H := H209.rejoin H
            have hR := Option.some.inj hF
            subst hR
            refine (blockQ_n (thenQ_n (And.intro ?_ ?_)))
            · repeat' (first | with_reducible exact Fr_refl | refine Fr_upd rfl ?_ | refine Fr_over rfl rfl ?_)
            · exact ⟨(), Sl_nil, H.pick [0, 1, 2] (by decide)⟩
  · rintro _ ρ w123 H
    have hF := hK124
    refine WP_seq_k fun K238 hK238 => ?_
    refine WP_region ?_
    refine RL_do rfl rfl (Do_loadF (e := (Fl.arr 64 (Fl.int .u16))) (a := g122) agg25 rfl sz25 (Blk.cells (H.item (i := 1) rfl))) ?_
    refine RL_exU rfl (Lx_storeW (e := (Fl.arr 64 (Fl.int .u16))) (a := (Arr.rep 64 0 : Arr 64 Int)) (a' := g122) H 2 rfl sz25 rfl rfl) ?_
    rintro w239 H
    refine (RL_nil (thenQ_n (hK238 _ _ ?_)))
    have hR := Option.some.inj hF
    subst hR
    refine (WP_ret (postc  rfl rfl (run_loadVar_agg agg25 sz25 (Fl.len _ _) (Blk.cells (H.item (i := 2) rfl))) ?_))
    exact ⟨rfl, H.pick [] (by decide)⟩
end Go.Proofs.YtafgmocdnjdmoaaDoor.L
