/- What the walks and the laws stand on; no condition but those that stand in the statements. -/
import Derived.Test.YtafgmocdnjdmoaaDoorRows
import Derived.Test.YtafgmocdnjdmoaaDoorC6
namespace Go.Proofs.YtafgmocdnjdmoaaDoor
open Go.RowKit Go.OB Go.Fr1
theorem en21 : Enters Tryd.prog 21 := ⟨_, Tryd.func21, rfl, by kernel_rfl⟩
theorem en26 : Enters Tryd.prog 26 := ⟨_, Tryd.func26, rfl, by kernel_rfl⟩
theorem en27 : Enters Tryd.prog 27 := ⟨_, Tryd.func27, rfl, by kernel_rfl⟩
theorem en28 : Enters Tryd.prog 28 := ⟨_, Tryd.func28, rfl, by kernel_rfl⟩
theorem en29 : Enters Tryd.prog 29 := ⟨_, Tryd.func29, rfl, by kernel_rfl⟩
theorem en30 : Enters Tryd.prog 30 := ⟨_, Tryd.func30, rfl, by kernel_rfl⟩
theorem en31 : Enters Tryd.prog 31 := ⟨_, Tryd.func31, rfl, by kernel_rfl⟩
/-- orangebox/orangeboxlaw1.FrameWordMatchesSpec -/
theorem FrameWord_c (n : Int) (w : World) (hg : Cells w ⟨0, 0, none⟩ (wds tab)) (hw0 : 0 < w.heap.size) :
    Calls Tryd.prog 6 #[.int .i64 n] w fun e w' => e = .returned (.bool true) ∧ Below w.heap.size w w' := by
  refine calls_of_WP (args := [.int .i64 n]) 75 Tryd.func6 rfl rfl rfl ?_
  have H := Sep.start [] w
  refine WP_seq_k fun K1 hK1 => ?_
  refine WP_region ?_
  refine RL_do rfl rfl (Do_assign rfl) ?_
  refine (RL_nil (thenQ_n (hK1 _ _ ?_)))
  refine WP_seq_k fun K2 hK2 => ?_
  refine WP_region ?_
  refine RL_do rfl rfl (Do_move (v := .int _ _) rfl) ?_
  refine RL_call rfl rfl (DoC_func en26 rfl) (Word_c n w) ?_
  rintro _ w100 ⟨rfl, hB⟩
  replace H := H.below hB
  refine ⟨_, rfl, ?_⟩
  refine RL_do rfl rfl (Do_move (v := .tuple _) rfl) ?_
  refine RL_do rfl rfl (Do_extract (v := .int _ _) rfl rfl) ?_
  refine RL_do rfl rfl (Do_extract (v := .int _ _) rfl rfl) ?_
  refine RL_do rfl rfl (Do_assign (v := .int _ _) rfl) ?_
  refine RL_do rfl rfl (Do_assign (v := .int _ _) rfl) ?_
  refine (RL_nil (thenQ_n (hK2 _ _ ?_)))
  refine WP_seq_k fun K3 hK3 => ?_
  refine WP_region ?_
  refine RL_do rfl rfl (Do_move (v := .int _ _) rfl) ?_
  refine RL_call rfl rfl (DoC_func en27 rfl) (WordRef_c n w100) ?_
  rintro _ w101 ⟨rfl, hB⟩
  replace H := H.below hB
  refine ⟨_, rfl, ?_⟩
  refine RL_do rfl rfl (Do_move (v := .tuple _) rfl) ?_
  refine RL_do rfl rfl (Do_extract (v := .int _ _) rfl rfl) ?_
  refine RL_do rfl rfl (Do_extract (v := .int _ _) rfl rfl) ?_
  refine RL_do rfl rfl (Do_assign (v := .int _ _) rfl) ?_
  refine RL_do rfl rfl (Do_assign (v := .int _ _) rfl) ?_
  refine (RL_nil (thenQ_n (hK3 _ _ ?_)))
  refine WP_seq_k fun K4 hK4 => ?_
  refine WP_seq_k fun K5 hK5 => ?_
  refine WP_region ?_
  refine RL_do rfl rfl (Do_move (v := .int _ _) rfl) ?_
  refine RL_do rfl rfl (Do_move (v := .int _ _) rfl) ?_
  refine RL_do rfl rfl (Do_neq rfl rfl) ?_
  first | refine RL_split rfl rfl rfl (fun c1 => ?_) (fun c1 => ?_) | refine RL_splitb rfl rfl rfl (fun c1 => ?_) (fun c1 => ?_)
  · exact absurd (by omega : False) id
  · skip
    refine RL_do rfl rfl (Do_move (v := .int _ _) rfl) ?_
    refine RL_do rfl rfl (Do_move (v := .int _ _) rfl) ?_
    refine RL_do rfl rfl (Do_neq rfl rfl) ?_
    refine RL_do rfl rfl (Do_pick_f (v := .bool _) rfl rfl) ?_
    refine (RL_nil (thenQ_n (hK5 _ _ ?_)))
    first | refine WP_if rfl (fun c2 => ?_) (fun c2 => ?_) | refine WP_ifb rfl (fun c2 => ?_) (fun c2 => ?_)
    · exact absurd (by omega : False) id
    · skip
      refine (WP_skip (thenQ_n (hK4 _ _ ?_)))
      refine WP_seq_k fun K6 hK6 => ?_
      refine WP_region ?_
      refine RL_do rfl rfl (Do_move (v := .int _ _) rfl) ?_
      refine RL_call rfl rfl (DoC_func en28 rfl) (Data_c n w101) ?_
      rintro _ w102 ⟨rfl, hB⟩
      replace H := H.below hB
      refine ⟨_, rfl, ?_⟩
      refine RL_do rfl rfl (Do_move (v := .tuple _) rfl) ?_
      refine RL_do rfl rfl (Do_extract (v := .int _ _) rfl rfl) ?_
      refine RL_do rfl rfl (Do_extract (v := .bool _) rfl rfl) ?_
      refine RL_do rfl rfl (Do_extract (v := .int _ _) rfl rfl) ?_
      refine RL_do rfl rfl (Do_assign (v := .int _ _) rfl) ?_
      refine RL_do rfl rfl (Do_assign (v := .bool _) rfl) ?_
      refine RL_do rfl rfl (Do_assign (v := .int _ _) rfl) ?_
      refine (RL_nil (thenQ_n (hK6 _ _ ?_)))
      refine WP_seq_k fun K7 hK7 => ?_
      refine WP_region ?_
      refine RL_do rfl rfl (Do_move (v := .int _ _) rfl) ?_
      refine RL_call rfl rfl (DoC_func en29 rfl) (DataRef_c n w102) ?_
      rintro _ w103 ⟨rfl, hB⟩
      replace H := H.below hB
      refine ⟨_, rfl, ?_⟩
      refine RL_do rfl rfl (Do_move (v := .tuple _) rfl) ?_
      refine RL_do rfl rfl (Do_extract (v := .int _ _) rfl rfl) ?_
      refine RL_do rfl rfl (Do_extract (v := .bool _) rfl rfl) ?_
      refine RL_do rfl rfl (Do_extract (v := .int _ _) rfl rfl) ?_
      refine RL_do rfl rfl (Do_assign (v := .int _ _) rfl) ?_
      refine RL_do rfl rfl (Do_assign (v := .bool _) rfl) ?_
      refine RL_do rfl rfl (Do_assign (v := .int _ _) rfl) ?_
      refine (RL_nil (thenQ_n (hK7 _ _ ?_)))
      refine WP_seq_k fun K8 hK8 => ?_
      refine WP_seq_k fun K9 hK9 => ?_
      refine WP_region ?_
      refine RL_do rfl rfl (Do_move (v := .int _ _) rfl) ?_
      refine RL_do rfl rfl (Do_move (v := .int _ _) rfl) ?_
      refine RL_do rfl rfl (Do_neq rfl rfl) ?_
      first | refine RL_split rfl rfl rfl (fun c3 => ?_) (fun c3 => ?_) | refine RL_splitb rfl rfl rfl (fun c3 => ?_) (fun c3 => ?_)
      · exact absurd (by omega : False) id
      · skip
        refine RL_do rfl rfl (Do_move (v := .bool _) rfl) ?_
        refine RL_do rfl rfl (Do_move (v := .bool _) rfl) ?_
        refine RL_do rfl rfl (Do_neqb u4 rfl rfl) ?_
        refine RL_do rfl rfl (Do_pick_f (v := .bool _) rfl rfl) ?_
        first | refine RL_split rfl rfl rfl (fun c4 => ?_) (fun c4 => ?_) | refine RL_splitb rfl rfl rfl (fun c4 => ?_) (fun c4 => ?_)
        · exact absurd (by simp at c4 : False) id
        · skip
          refine RL_do rfl rfl (Do_move (v := .int _ _) rfl) ?_
          refine RL_do rfl rfl (Do_move (v := .int _ _) rfl) ?_
          refine RL_do rfl rfl (Do_neq rfl rfl) ?_
          refine RL_do rfl rfl (Do_pick_f (v := .bool _) rfl rfl) ?_
          refine (RL_nil (thenQ_n (hK9 _ _ ?_)))
          first | refine WP_if rfl (fun c5 => ?_) (fun c5 => ?_) | refine WP_ifb rfl (fun c5 => ?_) (fun c5 => ?_)
          · exact absurd (by omega : False) id
          · skip
            refine (WP_skip (thenQ_n (hK8 _ _ ?_)))
            refine WP_seq_k fun K10 hK10 => ?_
            refine WP_region ?_
            refine RL_do rfl rfl (Do_move (v := .int _ _) rfl) ?_
            refine RL_call rfl rfl (DoC_func en30 rfl) (Sync_c n w103 (hg.only (Sep.only H) (by simp))) ?_
            rintro _ w104 ⟨rfl, hB⟩
            replace H := H.below hB
            refine ⟨_, rfl, ?_⟩
            refine RL_do rfl rfl (Do_move (v := .tuple _) rfl) ?_
            refine RL_do rfl rfl (Do_extract (v := .int _ _) rfl rfl) ?_
            refine RL_do rfl rfl (Do_extract (v := .int _ _) rfl rfl) ?_
            refine RL_do rfl rfl (Do_assign (v := .int _ _) rfl) ?_
            refine RL_do rfl rfl (Do_assign (v := .int _ _) rfl) ?_
            refine (RL_nil (thenQ_n (hK10 _ _ ?_)))
            refine WP_seq_k fun K11 hK11 => ?_
            refine WP_region ?_
            refine RL_do rfl rfl (Do_move (v := .int _ _) rfl) ?_
            refine RL_call rfl rfl (DoC_func en31 rfl) (SyncRef_c n w104) ?_
            rintro _ w105 ⟨rfl, hB⟩
            replace H := H.below hB
            refine ⟨_, rfl, ?_⟩
            refine RL_do rfl rfl (Do_move (v := .tuple _) rfl) ?_
            refine RL_do rfl rfl (Do_extract (v := .int _ _) rfl rfl) ?_
            refine RL_do rfl rfl (Do_extract (v := .int _ _) rfl rfl) ?_
            refine RL_do rfl rfl (Do_assign (v := .int _ _) rfl) ?_
            refine RL_do rfl rfl (Do_assign (v := .int _ _) rfl) ?_
            refine (RL_nil (thenQ_n (hK11 _ _ ?_)))
            refine WP_seq_k fun K12 hK12 => ?_
            refine WP_region ?_
            refine RL_do rfl rfl (Do_move (v := .int _ _) rfl) ?_
            refine RL_do rfl rfl (Do_move (v := .int _ _) rfl) ?_
            refine RL_do rfl rfl (Do_eql rfl rfl) ?_
            first | refine RL_split rfl rfl rfl (fun c6 => ?_) (fun c6 => ?_) | refine RL_splitb rfl rfl rfl (fun c6 => ?_) (fun c6 => ?_)
            · skip
              refine RL_do rfl rfl (Do_move (v := .int _ _) rfl) ?_
              refine RL_do rfl rfl (Do_move (v := .int _ _) rfl) ?_
              refine RL_do rfl rfl (Do_eql rfl rfl) ?_
              refine RL_do rfl rfl (Do_pick_t (v := .bool _) rfl rfl) ?_
              first | refine RL_split rfl rfl rfl (fun c7 => ?_) (fun c7 => ?_) | refine RL_splitb rfl rfl rfl (fun c7 => ?_) (fun c7 => ?_)
              · skip
                refine RL_call rfl rfl (DoC_func en21 rfl) (framed_c w105 (hg.only (Sep.only H) (by simp)) (by have := (Sep.only H).size; omega)) ?_
                rintro _ w106 ⟨rfl, hB⟩
                replace H := H.below hB
                refine ⟨_, rfl, ?_⟩
                refine RL_do rfl rfl (Do_pick_t (v := .bool _) rfl rfl) ?_
                refine RL_do rfl rfl (Do_assign (v := .bool _) rfl) ?_
                refine (RL_nil (thenQ_n (hK12 _ _ ?_)))
                refine (WP_ret (post1 (v1 := .bool _) rfl rfl ?_))
                exact ⟨rfl, H.kept⟩
              · exact absurd (by omega : False) id
            · exact absurd (by omega : False) id
end Go.Proofs.YtafgmocdnjdmoaaDoor
