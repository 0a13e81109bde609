/- What the walks and the laws stand on; no condition but those that stand in the statements. -/
import Derived.Test.YtafgmocdnjdmoaaDoorRows
import Derived.Test.YtafgmocdnjdmoaaDoorC8
namespace Go.Proofs.YtafgmocdnjdmoaaDoor
open Go.RowKit Go.OB Go.Fr1
theorem en22 : Enters Tryd.prog 22 := ⟨_, Tryd.func22, rfl, by kernel_rfl⟩
theorem en23 : Enters Tryd.prog 23 := ⟨_, Tryd.func23, rfl, by kernel_rfl⟩
/-- orangebox/orangeboxlaw1.FrameDistanceIsAMetric -/
theorem FrameDistance_c (f1 f2 f3 : List Nat) (l1 : f1.length = 64) (l2 : f2.length = 64) (l3 : f3.length = 64) (s1 : Small f1) (s2 : Small f2) (s3 : Small f3) (w : World) (hg : Cells w ⟨0, 0, none⟩ (wds tab)) (hw0 : 0 < w.heap.size) :
    Calls Tryd.prog 4 #[.agg (wds f1).toArray, .agg (wds f2).toArray, .agg (wds f3).toArray] w fun e w' => e = .returned (.bool true) ∧ Below w.heap.size w w' := by
  have z := distN_zero l1 l2 s1 s2
  have q1 := distN_comm f1 f2
  have q2 := distN_tri f1 f2 f3
  have q3 := distN_le f1 f3
  have q4 := distN_le f3 f2
  have z2 : decide ((distN f1 f2 : Int) = 0) = decide (f1 = f2) := decide_eq_decide.2 (by rw [← z]; omega)
  refine calls_of_WP (args := [.agg (wds f1).toArray, .agg (wds f2).toArray, .agg (wds f3).toArray]) 45 Tryd.func4 rfl rfl rfl ?_
  have H := Sep.start [] w
  refine WP_seq_k fun K1 hK1 => ?_
  refine WP_region ?_
  refine RL_ex rfl rfl (Ex_box rfl) ?_
  rintro _ w116 ⟨b21, rfl, hA⟩
  replace H := H.alloc hA
  refine RL_ex rfl rfl (Ex_box rfl) ?_
  rintro _ w117 ⟨b22, rfl, hA⟩
  replace H := H.alloc hA
  refine RL_ex rfl rfl (Ex_box rfl) ?_
  rintro _ w118 ⟨b23, rfl, hA⟩
  replace H := H.alloc hA
  refine RL_do rfl rfl (Do_assign rfl) ?_
  refine (RL_nil (thenQ_n (hK1 _ _ ?_)))
  refine WP_seq_k fun K2 hK2 => ?_
  refine WP_region ?_
  refine RL_do rfl rfl (Do_loads agg25 rfl sz25 (by simp [wds_length, bys_length, l1, l2, l3]) (Blk.cells (Sep.blk (i := 0) H rfl))) ?_
  refine RL_do rfl rfl (Do_loads agg25 rfl sz25 (by simp [wds_length, bys_length, l1, l2, l3]) (Blk.cells (Sep.blk (i := 1) H rfl))) ?_
  refine RL_call rfl rfl (DoC_func en22 rfl) (Dist_c f1 f2 l1 l2 s1 s2 w118) ?_
  rintro _ w119 ⟨rfl, hB⟩
  replace H := H.below hB
  refine ⟨_, rfl, ?_⟩
  refine RL_do rfl rfl (Do_assign (v := .int _ _) rfl) ?_
  refine (RL_nil (thenQ_n (hK2 _ _ ?_)))
  refine WP_seq_k fun K3 hK3 => ?_
  refine WP_mix [.pure, .read, .read, .read, .pure, .pure, .pure, .pure, .read, .read, .pure, .pure, .pure, .pure, .pure, .read, .read, .read, .pure, .pure, .pure, .pure, .read, .read, .read, .read, .read, .read, .pure, .pure, .pure, .pure, .read, .pure, .pure] mixed (by kernel_rfl) (by kernel_rfl) (by kernel_rfl) ?_
  refine XL_pure rfl rfl rfl (fun w' => Do_move (v := .int _ _) rfl) ?_
  refine XL_read rfl rfl rfl (fun w' hw' => Do_loads agg25 rfl sz25 (by simp [wds_length, bys_length, l1, l2, l3]) (Blk.cells (Sep.blk (i := 0) (Sep.sees H hw') rfl))) ?_
  refine XL_read rfl rfl rfl (fun w' hw' => Do_loads agg25 rfl sz25 (by simp [wds_length, bys_length, l1, l2, l3]) (Blk.cells (Sep.blk (i := 1) (Sep.sees H hw') rfl))) ?_
  refine XL_call rfl rfl rfl (fun w' hw' => DoC_func en23 rfl) (fun w' hw' => DistRef_c f1 f2 l1 l2 s1 s2 w') ?_
  refine XL_pure rfl rfl rfl (fun w' => Do_eql rfl rfl) ?_
  first | refine XL_split rfl rfl rfl rfl (fun c1 => ?_) (fun c1 => ?_) | refine XL_splitb rfl rfl rfl rfl (fun c1 => ?_) (fun c1 => ?_)
  · skip
    refine XL_pure rfl rfl rfl (fun w' => Do_move (v := .int _ _) rfl) ?_
    refine XL_pure rfl rfl rfl (fun w' => Do_eql rfl rfl) ?_
    refine XL_read rfl rfl rfl (fun w' hw' => Do_loads agg25 rfl sz25 (by simp [wds_length, bys_length, l1, l2, l3]) (Blk.cells (Sep.blk (i := 0) (Sep.sees H hw') rfl))) ?_
    refine XL_read rfl rfl rfl (fun w' hw' => Do_loads agg25 rfl sz25 (by simp [wds_length, bys_length, l1, l2, l3]) (Blk.cells (Sep.blk (i := 1) (Sep.sees H hw') rfl))) ?_
    refine XL_pure rfl rfl rfl (fun w' => Do_eqlst (k := .u16) u25 u23 sz23 eg25 rfl rfl (by simp [wds_length, bys_length, l1, l2, l3]) (by simp [wds_length, bys_length, l1, l2, l3])) ?_
    refine XL_pure rfl rfl rfl (fun w' => Do_eqlb u4 rfl rfl) ?_
    refine XL_pure rfl rfl rfl (fun w' => Do_pick_t (v := .bool _) rfl rfl) ?_
    first | refine XL_split rfl rfl rfl rfl (fun c2 => ?_) (fun c2 => ?_) | refine XL_splitb rfl rfl rfl rfl (fun c2 => ?_) (fun c2 => ?_)
    · skip
      refine XL_pure rfl rfl rfl (fun w' => Do_move (v := .int _ _) rfl) ?_
      refine XL_read rfl rfl rfl (fun w' hw' => Do_loads agg25 rfl sz25 (by simp [wds_length, bys_length, l1, l2, l3]) (Blk.cells (Sep.blk (i := 1) (Sep.sees H hw') rfl))) ?_
      refine XL_read rfl rfl rfl (fun w' hw' => Do_loads agg25 rfl sz25 (by simp [wds_length, bys_length, l1, l2, l3]) (Blk.cells (Sep.blk (i := 0) (Sep.sees H hw') rfl))) ?_
      refine XL_call rfl rfl rfl (fun w' hw' => DoC_func en22 rfl) (fun w' hw' => Dist_c f2 f1 l2 l1 s2 s1 w') ?_
      refine XL_pure rfl rfl rfl (fun w' => Do_eql rfl rfl) ?_
      refine XL_pure rfl rfl rfl (fun w' => Do_pick_t (v := .bool _) rfl rfl) ?_
      first | refine XL_split rfl rfl rfl rfl (fun c3 => ?_) (fun c3 => ?_) | refine XL_splitb rfl rfl rfl rfl (fun c3 => ?_) (fun c3 => ?_)
      · skip
        refine XL_pure rfl rfl rfl (fun w' => Do_move (v := .int _ _) rfl) ?_
        refine XL_read rfl rfl rfl (fun w' hw' => Do_loads agg25 rfl sz25 (by simp [wds_length, bys_length, l1, l2, l3]) (Blk.cells (Sep.blk (i := 0) (Sep.sees H hw') rfl))) ?_
        refine XL_read rfl rfl rfl (fun w' hw' => Do_loads agg25 rfl sz25 (by simp [wds_length, bys_length, l1, l2, l3]) (Blk.cells (Sep.blk (i := 2) (Sep.sees H hw') rfl))) ?_
        refine XL_call rfl rfl rfl (fun w' hw' => DoC_func en22 rfl) (fun w' hw' => Dist_c f1 f3 l1 l3 s1 s3 w') ?_
        refine XL_read rfl rfl rfl (fun w' hw' => Do_loads agg25 rfl sz25 (by simp [wds_length, bys_length, l1, l2, l3]) (Blk.cells (Sep.blk (i := 2) (Sep.sees H hw') rfl))) ?_
        refine XL_read rfl rfl rfl (fun w' hw' => Do_loads agg25 rfl sz25 (by simp [wds_length, bys_length, l1, l2, l3]) (Blk.cells (Sep.blk (i := 1) (Sep.sees H hw') rfl))) ?_
        refine XL_call rfl rfl rfl (fun w' hw' => DoC_func en22 rfl) (fun w' hw' => Dist_c f3 f2 l3 l2 s3 s2 w') ?_
        refine XL_pure rfl rfl rfl (fun w' => Do_add rfl rfl (wrap_i64 (by omega) (by omega))) ?_
        refine XL_pure rfl rfl rfl (fun w' => Do_leq rfl rfl) ?_
        refine XL_pure rfl rfl rfl (fun w' => Do_pick_t (v := .bool _) rfl rfl) ?_
        first | refine XL_split rfl rfl rfl rfl (fun c4 => ?_) (fun c4 => ?_) | refine XL_splitb rfl rfl rfl rfl (fun c4 => ?_) (fun c4 => ?_)
        · skip
          refine XL_call rfl rfl rfl (fun w' hw' => DoC_func en21 rfl) (fun w' hw' => framed_c w' (hg.only (Sep.only (Sep.sees H hw')) (by simp)) (by have := (Sep.only (Sep.sees H hw')).size; omega)) ?_
          refine XL_pure rfl rfl rfl (fun w' => Do_pick_t (v := .bool _) rfl rfl) ?_
          refine XL_pure rfl rfl rfl (fun w' => Do_assign (v := .bool _) rfl) ?_
          refine XL_nil fun w120 hS => ?_
          replace H := H.sees hS
          refine (thenQ_n (hK3 _ _ ?_))
          refine (WP_ret (post1 (v1 := .bool _) rfl rfl ?_))
          exact ⟨rfl, H.kept⟩
        · exact absurd (by omega : False) id
      · exact absurd (by omega : False) id
    · exact absurd (by rw [z2] at c2; simp at c2 : False) id
  · exact absurd (by omega : False) id
end Go.Proofs.YtafgmocdnjdmoaaDoor
