/- What the walks and the laws stand on; no condition but those that stand in the statements. -/
import Derived.Test.YtafgmocdnjdmoaaDoorRows
import Derived.Test.YtafgmocdnjdmoaaDoorC26
import Derived.Test.YtafgmocdnjdmoaaDoorAppB
import Derived.Test.YtafgmocdnjdmoaaDoorD1
namespace Go.Proofs.YtafgmocdnjdmoaaDoor
open Go.RowKit Go.OB Go.Fr1
theorem en35 : Enters Tryd.prog 35 := ⟨_, Tryd.func35, rfl, by kernel_rfl⟩
theorem en36 : Enters Tryd.prog 36 := ⟨_, Tryd.func36, rfl, by kernel_rfl⟩
theorem en37 : Enters Tryd.prog 37 := ⟨_, Tryd.func37, rfl, by kernel_rfl⟩
/-- orangebox/orangeboxlaw1.FrameBytesRoundTrip -/
theorem RoundTrip_w (f : List Nat) (hl : f.length = 64) (hs : Small f) (v : Value) (xs : List Nat) (m : Nat) (hm : xs.length = m) (hx : Byte xs) (hM : m ≤ 140737488351232) (w : World) (hw : wideN f) (hg : Cells w ⟨0, 0, none⟩ (wds tab)) (hw0 : 0 < w.heap.size) (hr : SlR w v 1 m (bys xs)) :
    Calls Tryd.prog 8 #[.agg (wds f).toArray, v] w fun e w' => e = .returned (.bool true) ∧ Below w.heap.size w w' := by
  refine calls_of_WP (args := [.agg (wds f).toArray, v]) 49 Tryd.func8 rfl rfl rfl ?_
  have H := Sep.start [] w
  refine WP_seq_k fun K1 hK1 => ?_
  refine WP_region ?_
  refine RL_ex rfl rfl (Ex_box rfl) ?_
  rintro _ w290 ⟨b60, rfl, hA⟩
  replace H := H.alloc hA
  refine RL_do rfl rfl (Do_assign rfl) ?_
  refine (RL_nil (thenQ_n (hK1 _ _ ?_)))
  refine WP_seq_k fun K2 hK2 => ?_
  refine WP_region ?_
  refine RL_do rfl rfl (Do_loads agg25 rfl sz25 (by simp [wds_length, bys_length, hl]) (Blk.cells (Sep.blk (i := 0) H rfl))) ?_
  refine RL_call rfl rfl (DoC_func en35 rfl) (ToBytes_w f hl hs w290 hw) ?_
  rintro _ w291 ⟨rfl, hB⟩
  replace H := H.below hB
  refine ⟨_, rfl, ?_⟩
  refine RL_do rfl rfl (Do_move (v := .tuple _) rfl) ?_
  refine RL_do rfl rfl (Do_extract (v := .slice _ _ _) rfl rfl) ?_
  refine RL_do rfl rfl (Do_extract (v := .int _ _) rfl rfl) ?_
  refine RL_do rfl rfl (Do_assign (v := .slice _ _ _) rfl) ?_
  refine RL_do rfl rfl (Do_assign (v := .int _ _) rfl) ?_
  refine (RL_nil (thenQ_n (hK2 _ _ ?_)))
  refine WP_seq_k fun K3 hK3 => ?_
  refine WP_region ?_
  refine RL_do rfl rfl (Do_loads agg25 rfl sz25 (by simp [wds_length, bys_length, hl]) (Blk.cells (Sep.blk (i := 0) H rfl))) ?_
  refine RL_call rfl rfl (DoC_func en36 rfl) (ToBytesRef_w f hl hs w291 hw) ?_
  rintro _ w292 ⟨rfl, hB⟩
  replace H := H.below hB
  refine ⟨_, rfl, ?_⟩
  refine RL_do rfl rfl (Do_move (v := .tuple _) rfl) ?_
  refine RL_do rfl rfl (Do_extract (v := .slice _ _ _) rfl rfl) ?_
  refine RL_do rfl rfl (Do_extract (v := .int _ _) rfl rfl) ?_
  refine RL_do rfl rfl (Do_assign (v := .slice _ _ _) rfl) ?_
  refine RL_do rfl rfl (Do_assign (v := .int _ _) rfl) ?_
  refine (RL_nil (thenQ_n (hK3 _ _ ?_)))
  refine WP_seq_k fun K4 hK4 => ?_
  refine WP_seq_k fun K5 hK5 => ?_
  refine WP_region ?_
  refine RL_do rfl rfl (Do_move (v := .slice _ _ _) rfl) ?_
  refine RL_do rfl rfl (Do_move (v := .slice _ _ _) rfl) ?_
  refine RL_call rfl rfl (DoC_func en19 rfl) (beq_c _ 0 [] byte_nil _ 0 [] byte_nil w292 slr_nil slr_nil) ?_
  rintro _ w293 ⟨rfl, hB⟩
  replace H := H.below hB
  refine ⟨_, rfl, ?_⟩
  refine RL_do rfl rfl (Do_not' rfl) ?_
  first | refine RL_split rfl rfl rfl (fun c1 => ?_) (fun c1 => ?_) | refine RL_splitb rfl rfl rfl (fun c1 => ?_) (fun c1 => ?_)
  · exact absurd (by simp at c1 : False) id
  · skip
    refine RL_do rfl rfl (Do_move (v := .int _ _) rfl) ?_
    refine RL_do rfl rfl (Do_move (v := .int _ _) rfl) ?_
    refine RL_do rfl rfl (Do_neq rfl rfl) ?_
    refine RL_do rfl rfl (Do_pick_f (v := .bool _) rfl rfl) ?_
    refine (RL_nil (thenQ_n (hK5 _ _ ?_)))
    first | refine WP_if rfl (fun c2 => ?_) (fun c2 => ?_) | refine WP_ifb rfl (fun c2 => ?_) (fun c2 => ?_)
    · exact absurd (by omega : False) id
    · skip
      refine (WP_skip (thenQ_n (hK4 _ _ ?_)))
      refine WP_seq_k fun K6 hK6 => ?_
      refine WP_seq_k fun K7 hK7 => ?_
      refine WP_region ?_
      refine RL_do rfl rfl (Do_move (v := .int _ _) rfl) ?_
      refine RL_do rfl rfl (Do_neq rfl rfl) ?_
      refine (RL_nil (thenQ_n (hK7 _ _ ?_)))
      first | refine WP_if rfl (fun c3 => ?_) (fun c3 => ?_) | refine WP_ifb rfl (fun c3 => ?_) (fun c3 => ?_)
      · skip
        refine WP_seq_k fun K8 hK8 => ?_
        refine WP_region ?_
        refine RL_call rfl rfl (DoC_func en21 rfl) (framed_c w293 (hg.only (Sep.only H) (by simp)) (by have := (Sep.only H).size; omega)) ?_
        rintro _ w294 ⟨rfl, hB⟩
        replace H := H.below hB
        refine ⟨_, rfl, ?_⟩
        refine RL_do rfl rfl (Do_assign (v := .bool _) rfl) ?_
        refine (RL_nil (thenQ_n (hK8 _ _ ?_)))
        refine (WP_ret (thenQ_r (post1 (v1 := .bool _) rfl rfl ?_)))
        exact ⟨rfl, H.kept⟩
      · exact absurd (by omega : False) id

/-- orangebox/orangeboxlaw1.FrameBytesRoundTrip -/
theorem RoundTrip_n (f : List Nat) (hl : f.length = 64) (hs : Small f) (v : Value) (xs : List Nat) (m : Nat) (hm : xs.length = m) (hx : Byte xs) (hM : m ≤ 140737488351232) (w : World) (hw : ¬ wideN f) (hg : Cells w ⟨0, 0, none⟩ (wds tab)) (hw0 : 0 < w.heap.size) (hr : SlR w v 1 m (bys xs)) :
    Calls Tryd.prog 8 #[.agg (wds f).toArray, v] w fun e w' => e = .returned (.bool true) ∧ Below w.heap.size w w' := by
  refine calls_of_WP (args := [.agg (wds f).toArray, v]) 49 Tryd.func8 rfl rfl rfl ?_
  obtain ⟨vy, vc, rfl⟩ := hr.shape
  have lb : loadN (bytesN f ++ xs) 0 = f := load_app hl (notwide hl hw) xs
  have H := Sep.start [] w
  refine WP_seq_k fun K1 hK1 => ?_
  refine WP_region ?_
  refine RL_ex rfl rfl (Ex_box rfl) ?_
  rintro _ w295 ⟨b61, rfl, hA⟩
  replace H := H.alloc hA
  refine RL_do rfl rfl (Do_assign rfl) ?_
  refine (RL_nil (thenQ_n (hK1 _ _ ?_)))
  refine WP_seq_k fun K2 hK2 => ?_
  refine WP_region ?_
  refine RL_do rfl rfl (Do_loads agg25 rfl sz25 (by simp [wds_length, bys_length, hl, loadN_len]) (Blk.cells (Sep.blk (i := 0) H rfl))) ?_
  refine RL_call rfl rfl (DoC_func en35 rfl) (ToBytes_n f hl hs w295 hw) ?_
  rintro _ w296 ⟨bb, rfl, hb, hge, hB⟩
  replace H := H.gotb hB hb hge
  refine ⟨_, rfl, ?_⟩
  refine RL_do rfl rfl (Do_move (v := .tuple _) rfl) ?_
  refine RL_do rfl rfl (Do_extract (v := .slice _ _ _) rfl rfl) ?_
  refine RL_do rfl rfl (Do_extract (v := .int _ _) rfl rfl) ?_
  refine RL_do rfl rfl (Do_assign (v := .slice _ _ _) rfl) ?_
  refine RL_do rfl rfl (Do_assign (v := .int _ _) rfl) ?_
  refine (RL_nil (thenQ_n (hK2 _ _ ?_)))
  refine WP_seq_k fun K3 hK3 => ?_
  refine WP_region ?_
  refine RL_do rfl rfl (Do_loads agg25 rfl sz25 (by simp [wds_length, bys_length, hl, loadN_len]) (Blk.cells (Sep.blk (i := 0) H rfl))) ?_
  refine RL_call rfl rfl (DoC_func en36 rfl) (ToBytesRef_n f hl hs w296 hw) ?_
  rintro _ w297 ⟨bc, rfl, hb, hge, hB⟩
  replace H := H.gotb hB hb hge
  refine ⟨_, rfl, ?_⟩
  refine RL_do rfl rfl (Do_move (v := .tuple _) rfl) ?_
  refine RL_do rfl rfl (Do_extract (v := .slice _ _ _) rfl rfl) ?_
  refine RL_do rfl rfl (Do_extract (v := .int _ _) rfl rfl) ?_
  refine RL_do rfl rfl (Do_assign (v := .slice _ _ _) rfl) ?_
  refine RL_do rfl rfl (Do_assign (v := .int _ _) rfl) ?_
  refine (RL_nil (thenQ_n (hK3 _ _ ?_)))
  refine WP_seq_k fun K4 hK4 => ?_
  refine WP_seq_k fun K5 hK5 => ?_
  refine WP_region ?_
  refine RL_do rfl rfl (Do_move (v := .slice _ _ _) rfl) ?_
  refine RL_do rfl rfl (Do_move (v := .slice _ _ _) rfl) ?_
  refine RL_call rfl rfl (DoC_func en19 rfl) (beq_c _ 96 (bytesN f) (bytesN_byte f) _ 96 (bytesN f) (bytesN_byte f) w297 (Blk.slr (Sep.blk (i := 1) H rfl) 96 1 (by rw [bys_length, bytesN_len]) (by decide)) (Blk.slr (Sep.blk (i := 2) H rfl) 96 1 (by rw [bys_length, bytesN_len]) (by decide))) ?_
  rintro _ w298 ⟨rfl, hB⟩
  replace H := H.below hB
  refine ⟨_, rfl, ?_⟩
  refine RL_do rfl rfl (Do_not' rfl) ?_
  first | refine RL_split rfl rfl rfl (fun c1 => ?_) (fun c1 => ?_) | refine RL_splitb rfl rfl rfl (fun c1 => ?_) (fun c1 => ?_)
  · exact absurd (by simp at c1 : False) id
  · skip
    refine RL_do rfl rfl (Do_move (v := .int _ _) rfl) ?_
    refine RL_do rfl rfl (Do_move (v := .int _ _) rfl) ?_
    refine RL_do rfl rfl (Do_neq rfl rfl) ?_
    refine RL_do rfl rfl (Do_pick_f (v := .bool _) rfl rfl) ?_
    refine (RL_nil (thenQ_n (hK5 _ _ ?_)))
    first | refine WP_if rfl (fun c2 => ?_) (fun c2 => ?_) | refine WP_ifb rfl (fun c2 => ?_) (fun c2 => ?_)
    · exact absurd (by omega : False) id
    · skip
      refine (WP_skip (thenQ_n (hK4 _ _ ?_)))
      refine WP_seq_k fun K6 hK6 => ?_
      refine WP_seq_k fun K7 hK7 => ?_
      refine WP_region ?_
      refine RL_do rfl rfl (Do_move (v := .int _ _) rfl) ?_
      refine RL_do rfl rfl (Do_neq rfl rfl) ?_
      refine (RL_nil (thenQ_n (hK7 _ _ ?_)))
      first | refine WP_if rfl (fun c3 => ?_) (fun c3 => ?_) | refine WP_ifb rfl (fun c3 => ?_) (fun c3 => ?_)
      · exact absurd (by omega : False) id
      · skip
        refine (WP_skip (thenQ_n (hK6 _ _ ?_)))
        refine WP_seq_k fun K8 hK8 => ?_
        refine WP_region ?_
        refine RL_do rfl rfl (Do_move (v := .slice _ _ _) rfl) ?_
        refine RL_do rfl rfl (Do_move (v := .slice _ _ _) rfl) ?_
        refine RL_ex rfl rfl (Ex_appendB u22 el5 rfl rfl (by rw [bys_length, bytesN_len]) (by rw [maxLen_eq]; omega) (Blk.cells (Sep.blk (i := 1) H rfl)) (hr.only (Sep.only H) (by simp)) one_bys (by rw [maxLen_eq]; omega) (by omega)) ?_
        rintro va11 w299 ⟨hv, hB⟩
        replace H := H.below hB
        refine RL_call rfl rfl (DoC_func en37 rfl) (FromBytes_c _ (bytesN f ++ xs) (96 + m) (by rw [List.length_append, bytesN_len, hm]) (byte_app (bytesN_byte f) hx) (by omega) (by omega) w299 (by rw [bys_app]; exact hv)) ?_
        rintro _ w300 ⟨rfl, hB⟩
        have hv := hv.only (Only.of_below hB) (by simp)
        replace H := H.below hB
        refine ⟨_, rfl, ?_⟩
        refine RL_do rfl rfl (Do_move (v := .tuple _) rfl) ?_
        refine RL_do rfl rfl (Do_extract (v := .agg _) rfl rfl) ?_
        refine RL_do rfl rfl (Do_extract (v := .int _ _) rfl rfl) ?_
        refine RL_ex rfl rfl (Ex_alloc zero25) ?_
        rintro _ w301 ⟨b62, rfl, hA⟩
        replace H := H.alloc hA
        refine RL_exU rfl (Ex_storeAll sz25 (by simp [wds_length, bys_length, hl, loadN_len]) rfl rfl (one_wds) (Sep.blk (i := 3) H rfl) (by simp [wds_length, bys_length, hl, loadN_len])) ?_
        rintro w302 hW
        replace H := H.wr (i := 3) rfl hW
        refine RL_do rfl rfl (Do_assign (v := .int _ _) rfl) ?_
        refine (RL_nil (thenQ_n (hK8 _ _ ?_)))
        refine WP_seq_k fun K9 hK9 => ?_
        refine WP_region ?_
        refine RL_do rfl rfl (Do_move (v := .int _ _) rfl) ?_
        refine RL_do rfl rfl (Do_eql rfl rfl) ?_
        first | refine RL_split rfl rfl rfl (fun c4 => ?_) (fun c4 => ?_) | refine RL_splitb rfl rfl rfl (fun c4 => ?_) (fun c4 => ?_)
        · skip
          refine RL_do rfl rfl (Do_loads agg25 rfl sz25 (by simp [wds_length, bys_length, hl, loadN_len]) (Blk.cells (Sep.blk (i := 3) H rfl))) ?_
          refine RL_do rfl rfl (Do_loads agg25 rfl sz25 (by simp [wds_length, bys_length, hl, loadN_len]) (Blk.cells (Sep.blk (i := 0) H rfl))) ?_
          refine RL_do rfl rfl (Do_eqlst (k := .u16) u25 u23 sz23 eg25 rfl rfl (by simp [wds_length, bys_length, hl, loadN_len]) (by simp [wds_length, bys_length, hl, loadN_len])) ?_
          refine RL_do rfl rfl (Do_pick_t (v := .bool _) rfl rfl) ?_
          first | refine RL_split rfl rfl rfl (fun c5 => ?_) (fun c5 => ?_) | refine RL_splitb rfl rfl rfl (fun c5 => ?_) (fun c5 => ?_)
          · skip
            refine RL_call rfl rfl (DoC_func en21 rfl) (framed_c w302 (hg.only (Sep.only H) (by simp)) (by have := (Sep.only H).size; omega)) ?_
            rintro _ w303 ⟨rfl, hB⟩
            replace H := H.below hB
            refine ⟨_, rfl, ?_⟩
            refine RL_do rfl rfl (Do_pick_t (v := .bool _) rfl rfl) ?_
            refine RL_do rfl rfl (Do_assign (v := .bool _) rfl) ?_
            refine (RL_nil (thenQ_n (hK9 _ _ ?_)))
            refine (WP_ret (post1 (v1 := .bool _) rfl rfl ?_))
            exact ⟨rfl, H.kept⟩
          · exact absurd (by exact c5 lb : False) id
        · exact absurd (by omega : False) id
end Go.Proofs.YtafgmocdnjdmoaaDoor
