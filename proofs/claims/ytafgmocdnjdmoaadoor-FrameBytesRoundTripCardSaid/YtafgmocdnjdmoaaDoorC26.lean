/- What the walks and the laws stand on; no condition but those that stand in the statements. -/
import Derived.Test.YtafgmocdnjdmoaaDoorRows
import Derived.Test.YtafgmocdnjdmoaaDoorCF
import Derived.Test.YtafgmocdnjdmoaaDoorCB
import Derived.Test.YtafgmocdnjdmoaaDoorD2
namespace Go.Proofs.YtafgmocdnjdmoaaDoor
open Go.RowKit Go.OB Go.Fr1
theorem zero116 : Go.OB.Zero Tryd.prog 116 (List.replicate 96 (.int .u8 0)) := by unfold Go.OB.Zero; kernel_rfl
/-- orangebox/frame.ToBytes -/
theorem ToBytes_w (f : List Nat) (hl : f.length = 64) (hs : Small f) (w : World) (hw : wideN f) :
    Calls Tryd.prog 35 #[.agg (wds f).toArray] w fun e w' => e = .returned (.tuple #[.slice none 0 0, .int .i64 9]) ∧ Below w.heap.size w w' := by
  refine calls_of_WP (args := [.agg (wds f).toArray]) 8 Tryd.func35 rfl rfl rfl ?_
  have H := Sep.start [] w
  refine WP_seq_k fun K1 hK1 => ?_
  refine WP_region ?_
  refine RL_ex rfl rfl (Ex_box rfl) ?_
  rintro _ w279 ⟨b55, rfl, hA⟩
  replace H := H.alloc hA
  refine RL_do rfl rfl (Do_assign rfl) ?_
  refine RL_do rfl rfl (Do_assign rfl) ?_
  refine (RL_nil (thenQ_n (hK1 _ _ ?_)))
  refine WP_seq_k fun K2 hK2 => ?_
  refine WP_seq_k fun K3 hK3 => ?_
  refine WP_region ?_
  refine RL_call rfl rfl (DoC_func en78 rfl) (wide_c f hl hs _ _ w279 (Blk.cells (Sep.blk (i := 0) H rfl))) ?_
  rintro _ w280 ⟨rfl, hB⟩
  replace H := H.below hB
  refine ⟨_, rfl, ?_⟩
  refine (RL_nil (thenQ_n (hK3 _ _ ?_)))
  first | refine WP_if rfl (fun c1 => ?_) (fun c1 => ?_) | refine WP_ifb rfl (fun c1 => ?_) (fun c1 => ?_)
  · skip
    refine WP_seq_k fun K4 hK4 => ?_
    refine WP_region ?_
    refine RL_do rfl rfl (Do_assign rfl) ?_
    refine RL_do rfl rfl (Do_assign rfl) ?_
    refine (RL_nil (thenQ_n (hK4 _ _ ?_)))
    refine (WP_ret (thenQ_r (post2 (v1 := .slice _ _ _) (v2 := .int _ _) rfl rfl rfl ?_)))
    exact ⟨rfl, H.kept⟩
  · exact absurd (by exact c1 hw : False) id

/-- orangebox/frame.ToBytes -/
theorem ToBytes_n (f : List Nat) (hl : f.length = 64) (hs : Small f) (w : World) (hw : ¬ wideN f) :
    Calls Tryd.prog 35 #[.agg (wds f).toArray] w fun e w' => ∃ b, e = .returned (.tuple #[.slice (some ⟨b, 0, none⟩) 96 96, .int .i64 0]) ∧ Blk w' b (bys (bytesN f)) 116 ∧ w.heap.size ≤ b ∧ Below w.heap.size w w' := by
  refine calls_of_WP (args := [.agg (wds f).toArray]) 8 Tryd.func35 rfl rfl rfl ?_
  have H := Sep.start [] w
  refine WP_seq_k fun K1 hK1 => ?_
  refine WP_region ?_
  refine RL_ex rfl rfl (Ex_box rfl) ?_
  rintro _ w281 ⟨b56, rfl, hA⟩
  replace H := H.alloc hA
  refine RL_do rfl rfl (Do_assign rfl) ?_
  refine RL_do rfl rfl (Do_assign rfl) ?_
  refine (RL_nil (thenQ_n (hK1 _ _ ?_)))
  refine WP_seq_k fun K2 hK2 => ?_
  refine WP_seq_k fun K3 hK3 => ?_
  refine WP_region ?_
  refine RL_call rfl rfl (DoC_func en78 rfl) (wide_c f hl hs _ _ w281 (Blk.cells (Sep.blk (i := 0) H rfl))) ?_
  rintro _ w282 ⟨rfl, hB⟩
  replace H := H.below hB
  refine ⟨_, rfl, ?_⟩
  refine (RL_nil (thenQ_n (hK3 _ _ ?_)))
  first | refine WP_if rfl (fun c1 => ?_) (fun c1 => ?_) | refine WP_ifb rfl (fun c1 => ?_) (fun c1 => ?_)
  · exact absurd (by exact hw c1 : False) id
  · skip
    refine (WP_skip (thenQ_n (hK2 _ _ ?_)))
    refine WP_seq_k fun K4 hK4 => ?_
    refine WP_region ?_
    refine RL_ex rfl rfl (Ex_alloc zero116) ?_
    rintro _ w283 ⟨b57, rfl, hA⟩
    replace H := H.alloc hA
    replace H := H.conv (i := 1) rfl (cs' := byr (List.replicate 96 0) []) rep_byr
    refine (RL_nil (thenQ_n (hK4 _ _ ?_)))
    refine WP_seq_k fun K5 hK5 => ?_
    refine WP_region ?_
    refine RL_call rfl rfl (DoC_func en79 rfl) (save_c (List.replicate 96 0) [] rep_byte _ 0 _ (by simp) f hl (notwide hl hw) _ 0 (Sep.ne (i := 0) (j := 1) H rfl rfl rfl) w283 (Sep.blk (i := 1) H rfl) (Blk.cells (Sep.blk (i := 0) H rfl))) ?_
    rintro _ w284 ⟨rfl, hO, hB⟩
    replace H := H.write (i := 1) rfl hB hO
    refine ⟨_, rfl, ?_⟩
    refine (RL_nil (thenQ_n (hK5 _ _ ?_)))
    refine WP_seq_k fun K6 hK6 => ?_
    refine WP_region ?_
    replace H := H.conv (i := 1) rfl (cs' := bys (bytesN f)) (save_all (notwide hl hw))
    refine RL_do rfl rfl (Do_slicea u116 sz5 rfl) ?_
    refine RL_do rfl rfl (Do_assign (v := .slice _ _ _) rfl) ?_
    refine RL_do rfl rfl (Do_assign rfl) ?_
    refine (RL_nil (thenQ_n (hK6 _ _ ?_)))
    refine (WP_ret (post2 (v1 := .slice _ _ _) (v2 := .int _ _) rfl rfl rfl ?_))
    exact ⟨_, rfl, H.blk (i := 1) rfl, Sep.ge0 (i := 1) H rfl, H.kept⟩

/-- orangebox/orangeboxref1.ToBytes -/
theorem ToBytesRef_w (f : List Nat) (hl : f.length = 64) (hs : Small f) (w : World) (hw : wideN f) :
    Calls Tryd.prog 36 #[.agg (wds f).toArray] w fun e w' => e = .returned (.tuple #[.slice none 0 0, .int .i64 9]) ∧ Below w.heap.size w w' := by
  refine calls_of_WP (args := [.agg (wds f).toArray]) 8 Tryd.func36 rfl rfl rfl ?_
  have H := Sep.start [] w
  refine WP_seq_k fun K1 hK1 => ?_
  refine WP_region ?_
  refine RL_ex rfl rfl (Ex_box rfl) ?_
  rintro _ w285 ⟨b58, rfl, hA⟩
  replace H := H.alloc hA
  refine RL_do rfl rfl (Do_assign rfl) ?_
  refine RL_do rfl rfl (Do_assign rfl) ?_
  refine (RL_nil (thenQ_n (hK1 _ _ ?_)))
  refine WP_seq_k fun K2 hK2 => ?_
  refine WP_seq_k fun K3 hK3 => ?_
  refine WP_region ?_
  refine RL_do rfl rfl (Do_loads agg25 rfl sz25 (by simp [wds_length, bys_length, hl]) (Blk.cells (Sep.blk (i := 0) H rfl))) ?_
  refine RL_call rfl rfl (DoC_func en74 rfl) (WideRef_c f hl hs w285) ?_
  rintro _ w286 ⟨rfl, hB⟩
  replace H := H.below hB
  refine ⟨_, rfl, ?_⟩
  refine (RL_nil (thenQ_n (hK3 _ _ ?_)))
  first | refine WP_if rfl (fun c1 => ?_) (fun c1 => ?_) | refine WP_ifb rfl (fun c1 => ?_) (fun c1 => ?_)
  · skip
    refine WP_seq_k fun K4 hK4 => ?_
    refine WP_region ?_
    refine RL_do rfl rfl (Do_assign rfl) ?_
    refine RL_do rfl rfl (Do_assign rfl) ?_
    refine (RL_nil (thenQ_n (hK4 _ _ ?_)))
    refine (WP_ret (thenQ_r (post2 (v1 := .slice _ _ _) (v2 := .int _ _) rfl rfl rfl ?_)))
    exact ⟨rfl, H.kept⟩
  · exact absurd (by exact c1 hw : False) id

/-- orangebox/orangeboxref1.ToBytes -/
theorem ToBytesRef_n (f : List Nat) (hl : f.length = 64) (hs : Small f) (w : World) (hw : ¬ wideN f) :
    Calls Tryd.prog 36 #[.agg (wds f).toArray] w fun e w' => ∃ b, e = .returned (.tuple #[.slice (some ⟨b, 0, none⟩) 96 96, .int .i64 0]) ∧ Blk w' b (bys (bytesN f)) 5 ∧ w.heap.size ≤ b ∧ Below w.heap.size w w' := by
  refine calls_of_WP (args := [.agg (wds f).toArray]) 8 Tryd.func36 rfl rfl rfl ?_
  have H := Sep.start [] w
  refine WP_seq_k fun K1 hK1 => ?_
  refine WP_region ?_
  refine RL_ex rfl rfl (Ex_box rfl) ?_
  rintro _ w287 ⟨b59, rfl, hA⟩
  replace H := H.alloc hA
  refine RL_do rfl rfl (Do_assign rfl) ?_
  refine RL_do rfl rfl (Do_assign rfl) ?_
  refine (RL_nil (thenQ_n (hK1 _ _ ?_)))
  refine WP_seq_k fun K2 hK2 => ?_
  refine WP_seq_k fun K3 hK3 => ?_
  refine WP_region ?_
  refine RL_do rfl rfl (Do_loads agg25 rfl sz25 (by simp [wds_length, bys_length, hl]) (Blk.cells (Sep.blk (i := 0) H rfl))) ?_
  refine RL_call rfl rfl (DoC_func en74 rfl) (WideRef_c f hl hs w287) ?_
  rintro _ w288 ⟨rfl, hB⟩
  replace H := H.below hB
  refine ⟨_, rfl, ?_⟩
  refine (RL_nil (thenQ_n (hK3 _ _ ?_)))
  first | refine WP_if rfl (fun c1 => ?_) (fun c1 => ?_) | refine WP_ifb rfl (fun c1 => ?_) (fun c1 => ?_)
  · exact absurd (by exact hw c1 : False) id
  · skip
    refine (WP_skip (thenQ_n (hK2 _ _ ?_)))
    refine WP_seq_k fun K4 hK4 => ?_
    refine WP_region ?_
    refine RL_do rfl rfl (Do_loads agg25 rfl sz25 (by simp [wds_length, bys_length, hl]) (Blk.cells (Sep.blk (i := 0) H rfl))) ?_
    refine RL_call rfl rfl (DoC_func en76 rfl) (bytesRef_c f hl hs w288) ?_
    rintro _ w289 ⟨bb, rfl, hb, hge, hB⟩
    replace H := H.gotb hB hb hge
    refine ⟨_, rfl, ?_⟩
    refine RL_do rfl rfl (Do_assign (v := .slice _ _ _) rfl) ?_
    refine RL_do rfl rfl (Do_assign rfl) ?_
    refine (RL_nil (thenQ_n (hK4 _ _ ?_)))
    refine (WP_ret (post2 (v1 := .slice _ _ _) (v2 := .int _ _) rfl rfl rfl ?_))
    exact ⟨_, rfl, H.blk (i := 1) rfl, Sep.ge0 (i := 1) H rfl, H.kept⟩
end Go.Proofs.YtafgmocdnjdmoaaDoor
