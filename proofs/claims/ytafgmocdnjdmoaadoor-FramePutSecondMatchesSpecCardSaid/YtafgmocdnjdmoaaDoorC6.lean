/- What the walks and the laws stand on; no condition but those that stand in the statements. -/
import Derived.Test.YtafgmocdnjdmoaaDoorRows
import Derived.Test.YtafgmocdnjdmoaaDoorC5
namespace Go.Proofs.YtafgmocdnjdmoaaDoor
open Go.RowKit Go.OB Go.Fr1
theorem el3 : El Tryd.prog 3 1 8 ([.int .i64 0]) := ⟨by kernel_rfl, by kernel_rfl, by kernel_rfl, by decide, by decide⟩
theorem el5 : El Tryd.prog 5 1 1 ([.int .u8 0]) := ⟨by kernel_rfl, by kernel_rfl, by kernel_rfl, by decide, by decide⟩
theorem eg25 : Tryd.prog.eqGuardType Tryd.prog.depth 25 = false := by kernel_rfl
theorem en18 : Enters Tryd.prog 18 := ⟨_, Tryd.func18, rfl, by kernel_rfl⟩
theorem en32 : Enters Tryd.prog 32 := ⟨_, Tryd.func32, rfl, by kernel_rfl⟩
theorem en34 : Enters Tryd.prog 34 := ⟨_, Tryd.func34, rfl, by kernel_rfl⟩
theorem en62 : Enters Tryd.prog 62 := ⟨_, Tryd.func62, rfl, by kernel_rfl⟩
theorem New_f (w : World) (hg : Cells w ⟨0, 0, none⟩ (wds tab)) (v : Value) (hd : SlR w v 1 58 (ints dat)) (hw0 : 0 < w.heap.size) :
    Calls Tryd.prog 32 #[.int .i64 2050, v] w fun e w' => e = .returned (.tuple #[.agg (wds FR).toArray, .int .i64 0]) ∧ Below w.heap.size w w' := by
  have h := New_c 2050 v 58 dat (by decide) w hg hd hw0
  rw [newR_c] at h
  exact h
theorem Put_f (w : World) (b : Nat) (hb : Blk w b (bys (List.replicate 98 0)) 5) :
    Calls Tryd.prog 18 #[.slice (some ⟨b, 0, none⟩) 98 98, .int .i64 1, .agg (wds FR).toArray] w fun e w' => e = .returned (.int .i64 0) ∧ Only [b] w w' ∧ Blk w' b (bys BR) 5 := by
  have h := Put_c _ [] Z98 b 0 98 98 5 (by simp) (by decide) (by decide) 1 FR FR_len FR_small w (by rw [byr_nil]; exact hb)
  rw [putE_c, putL_c, byr_nil] at h
  exact h
theorem Get_f (w : World) (b : Nat) (hr : SlR w (.slice (some ⟨b, 0, none⟩) 98 98) 1 98 (bys BR)) :
    Calls Tryd.prog 62 #[.slice (some ⟨b, 0, none⟩) 98 98, .int .i64 1] w fun e w' => e = .returned (.tuple #[.agg (wds FR).toArray, .int .i64 0]) ∧ Below w.heap.size w w' := by
  have h := Get_c _ 98 98 BR BR_byte 1 w hr
  rw [getR_c] at h
  exact h

/-- orangebox/orangeboxlaw1.framed -/
theorem framed_c  (w : World) (hg : Cells w ⟨0, 0, none⟩ (wds tab)) (hw0 : 0 < w.heap.size) :
    Calls Tryd.prog 21 #[] w fun e w' => e = .returned (.bool true) ∧ Below w.heap.size w w' := by
  obtain ⟨e0, e1, e2, e3⟩ := FR_at
  obtain ⟨g0, g1, g2⟩ := BR_at
  have fl0 := flaws_c
  refine calls_of_WP (args := []) 71 Tryd.func21 rfl rfl rfl ?_
  have H := Sep.start [] w
  refine WP_seq_k fun K1 hK1 => ?_
  refine WP_region ?_
  refine RL_do rfl rfl (Do_assign rfl) ?_
  refine (RL_nil (thenQ_n (hK1 _ _ ?_)))
  refine WP_seq_k fun K2 hK2 => ?_
  refine WP_region ?_
  refine RL_ex rfl rfl (Ex_ms (n := 58) (cs := List.replicate 58 (.int .i64 0)) u46 el3 rfl rfl (by decide) (by decide) (by kernel_rfl)) ?_
  rintro _ w89 ⟨b13, rfl, hA⟩
  replace H := H.alloc hA
  refine RL_do rfl rfl (Do_assign (v := .slice _ _ _) rfl) ?_
  refine (RL_nil (thenQ_n (hK2 _ _ ?_)))
  refine WP_seq_k fun K3 hK3 => ?_
  refine WP_region ?_
  refine RL_do rfl rfl (Do_move (v := .slice _ _ _) rfl) ?_
  refine RL_do rfl rfl (Do_idx1 u46 sz3 rfl rfl (by omega) (by omega) (rfl : _ = 0) (by first | exact Nat.zero_add _ | rfl)) ?_
  refine RL_exU rfl (Ex_store1 sz3 rfl rfl rfl (Sep.blk (i := 0) H rfl) (by simp)) ?_
  rintro w90 hW
  replace H := H.wr (i := 0) rfl hW
  replace H := H.conv (i := 0) rfl (cs' := ints dat) rfl
  refine (RL_nil (thenQ_n (hK3 _ _ ?_)))
  refine WP_seq_k fun K4 hK4 => ?_
  refine WP_region ?_
  refine RL_do rfl rfl (Do_move (v := .slice _ _ _) rfl) ?_
  refine RL_call rfl rfl (DoC_func en32 rfl) (New_f w90 (hg.only (Sep.only H) (by simp)) _ (Blk.slr (Sep.blk (i := 0) H rfl) 58 1 rfl (by decide)) (by have := (Sep.only H).size; omega)) ?_
  rintro _ w91 ⟨rfl, hB⟩
  replace H := H.below hB
  refine ⟨_, rfl, ?_⟩
  refine RL_do rfl rfl (Do_move (v := .tuple _) rfl) ?_
  refine RL_do rfl rfl (Do_extract (v := .agg _) rfl rfl) ?_
  refine RL_do rfl rfl (Do_extract (v := .int _ _) rfl rfl) ?_
  refine RL_ex rfl rfl (Ex_alloc zero25) ?_
  rintro _ w92 ⟨b14, rfl, hA⟩
  replace H := H.alloc hA
  refine RL_exU rfl (Ex_storeAll sz25 (by simp [wds_length, bys_length, FR_len, BR_at]) rfl rfl (one_wds) (Sep.blk (i := 1) H rfl) (by simp [wds_length, bys_length, FR_len, BR_at])) ?_
  rintro w93 hW
  replace H := H.wr (i := 1) rfl hW
  refine RL_do rfl rfl (Do_assign (v := .int _ _) rfl) ?_
  refine (RL_nil (thenQ_n (hK4 _ _ ?_)))
  refine WP_seq_k fun K5 hK5 => ?_
  refine WP_seq_k fun K6 hK6 => ?_
  refine WP_region ?_
  refine RL_do rfl rfl (Do_move (v := .int _ _) rfl) ?_
  refine RL_do rfl rfl (Do_neq rfl rfl) ?_
  first | refine RL_split rfl rfl rfl (fun c1 => ?_) (fun c1 => ?_) | refine RL_splitb rfl rfl rfl (fun c1 => ?_) (fun c1 => ?_)
  · exact absurd (by omega : False) id
  · skip
    refine RL_do rfl rfl (Do_idxa1 u25 sz23 rfl rfl (by omega) (by omega) (rfl : _ = 0) (by first | exact Nat.zero_add _ | rfl)) ?_
    refine RL_do rfl rfl (Do_load one23 rfl (Blk.cell (Sep.blk (i := 1) H rfl) (wds_get (by rw [FR_len]; omega)))) ?_
    refine RL_do rfl rfl (Do_neq rfl rfl) ?_
    refine RL_do rfl rfl (Do_pick_f (v := .bool _) rfl rfl) ?_
    first | refine RL_split rfl rfl rfl (fun c2 => ?_) (fun c2 => ?_) | refine RL_splitb rfl rfl rfl (fun c2 => ?_) (fun c2 => ?_)
    · exact absurd (by omega : False) id
    · skip
      refine RL_do rfl rfl (Do_idxa1 u25 sz23 rfl rfl (by omega) (by omega) (rfl : _ = 1) (by first | exact Nat.zero_add _ | rfl)) ?_
      refine RL_do rfl rfl (Do_load one23 rfl (Blk.cell (Sep.blk (i := 1) H rfl) (wds_get (by rw [FR_len]; omega)))) ?_
      refine RL_do rfl rfl (Do_neq rfl rfl) ?_
      refine RL_do rfl rfl (Do_pick_f (v := .bool _) rfl rfl) ?_
      first | refine RL_split rfl rfl rfl (fun c3 => ?_) (fun c3 => ?_) | refine RL_splitb rfl rfl rfl (fun c3 => ?_) (fun c3 => ?_)
      · exact absurd (by omega : False) id
      · skip
        refine RL_do rfl rfl (Do_idxa1 u25 sz23 rfl rfl (by omega) (by omega) (rfl : _ = 2) (by first | exact Nat.zero_add _ | rfl)) ?_
        refine RL_do rfl rfl (Do_load one23 rfl (Blk.cell (Sep.blk (i := 1) H rfl) (wds_get (by rw [FR_len]; omega)))) ?_
        refine RL_do rfl rfl (Do_neq rfl rfl) ?_
        refine RL_do rfl rfl (Do_pick_f (v := .bool _) rfl rfl) ?_
        first | refine RL_split rfl rfl rfl (fun c4 => ?_) (fun c4 => ?_) | refine RL_splitb rfl rfl rfl (fun c4 => ?_) (fun c4 => ?_)
        · exact absurd (by omega : False) id
        · skip
          refine RL_do rfl rfl (Do_idxa1 u25 sz23 rfl rfl (by omega) (by omega) (rfl : _ = 3) (by first | exact Nat.zero_add _ | rfl)) ?_
          refine RL_do rfl rfl (Do_load one23 rfl (Blk.cell (Sep.blk (i := 1) H rfl) (wds_get (by rw [FR_len]; omega)))) ?_
          refine RL_do rfl rfl (Do_neq rfl rfl) ?_
          refine RL_do rfl rfl (Do_pick_f (v := .bool _) rfl rfl) ?_
          first | refine RL_split rfl rfl rfl (fun c5 => ?_) (fun c5 => ?_) | refine RL_splitb rfl rfl rfl (fun c5 => ?_) (fun c5 => ?_)
          · exact absurd (by omega : False) id
          · skip
            refine RL_do rfl rfl (Do_loads agg25 rfl sz25 (by simp [wds_length, bys_length, FR_len, BR_at]) (Blk.cells (Sep.blk (i := 1) H rfl))) ?_
            refine RL_call rfl rfl (DoC_func en34 rfl) (Flaws_c FR FR_len FR_small w93 (hg.only (Sep.only H) (by simp))) ?_
            rintro _ w94 ⟨v, rfl, hv, hB⟩
            rw [fl0] at hv
            simp only [List.length_nil, Nat.zero_div] at hv
            obtain ⟨sa, sc, rfl⟩ := (owns_slr hv).shape
            replace H := H.below hB
            refine ⟨_, rfl, ?_⟩
            refine RL_do rfl rfl (Do_len u50 rfl) ?_
            refine RL_do rfl rfl (Do_neq rfl rfl) ?_
            refine RL_do rfl rfl (Do_pick_f (v := .bool _) rfl rfl) ?_
            refine (RL_nil (thenQ_n (hK6 _ _ ?_)))
            first | refine WP_if rfl (fun c6 => ?_) (fun c6 => ?_) | refine WP_ifb rfl (fun c6 => ?_) (fun c6 => ?_)
            · exact absurd (by omega : False) id
            · skip
              refine (WP_skip (thenQ_n (hK5 _ _ ?_)))
              refine WP_seq_k fun K7 hK7 => ?_
              refine WP_region ?_
              refine RL_ex rfl rfl (Ex_ms (n := 98) (cs := List.replicate 98 (.int .u8 0)) u22 el5 rfl rfl (by decide) (by decide) (by kernel_rfl)) ?_
              rintro _ w95 ⟨b15, rfl, hA⟩
              replace H := H.alloc hA
              replace H := H.conv (i := 2) rfl (cs' := bys (List.replicate 98 0)) rfl
              refine RL_do rfl rfl (Do_assign (v := .slice _ _ _) rfl) ?_
              refine (RL_nil (thenQ_n (hK7 _ _ ?_)))
              refine WP_seq_k fun K8 hK8 => ?_
              refine WP_seq_k fun K9 hK9 => ?_
              refine WP_region ?_
              refine RL_do rfl rfl (Do_move (v := .slice _ _ _) rfl) ?_
              refine RL_do rfl rfl (Do_loads agg25 rfl sz25 (by simp [wds_length, bys_length, FR_len, BR_at]) (Blk.cells (Sep.blk (i := 1) H rfl))) ?_
              refine RL_call rfl rfl (DoC_func en18 rfl) (Put_f w95 _ (Sep.blk (i := 2) H rfl)) ?_
              rintro _ w96 ⟨rfl, hO, hB⟩
              replace H := H.write (i := 2) rfl hB hO
              refine ⟨_, rfl, ?_⟩
              refine RL_do rfl rfl (Do_neq rfl rfl) ?_
              first | refine RL_split rfl rfl rfl (fun c7 => ?_) (fun c7 => ?_) | refine RL_splitb rfl rfl rfl (fun c7 => ?_) (fun c7 => ?_)
              · exact absurd (by omega : False) id
              · skip
                refine RL_do rfl rfl (Do_move (v := .slice _ _ _) rfl) ?_
                refine RL_do rfl rfl (Do_idx1 u22 sz5 rfl rfl (by omega) (by omega) (rfl : _ = 0) (by first | exact Nat.zero_add _ | rfl)) ?_
                refine RL_do rfl rfl (Do_load one5 rfl (Blk.cell (Sep.blk (i := 2) H rfl) (bys_getw (by rw [g2]; omega)))) ?_
                refine RL_do rfl rfl (Do_neq rfl rfl) ?_
                refine RL_do rfl rfl (Do_pick_f (v := .bool _) rfl rfl) ?_
                first | refine RL_split rfl rfl rfl (fun c8 => ?_) (fun c8 => ?_) | refine RL_splitb rfl rfl rfl (fun c8 => ?_) (fun c8 => ?_)
                · exact absurd (by omega : False) id
                · skip
                  refine RL_do rfl rfl (Do_move (v := .slice _ _ _) rfl) ?_
                  refine RL_do rfl rfl (Do_idx1 u22 sz5 rfl rfl (by omega) (by omega) (rfl : _ = 97) (by first | exact Nat.zero_add _ | rfl)) ?_
                  refine RL_do rfl rfl (Do_load one5 rfl (Blk.cell (Sep.blk (i := 2) H rfl) (bys_getw (by rw [g2]; omega)))) ?_
                  refine RL_do rfl rfl (Do_neq rfl rfl) ?_
                  refine RL_do rfl rfl (Do_pick_f (v := .bool _) rfl rfl) ?_
                  refine (RL_nil (thenQ_n (hK9 _ _ ?_)))
                  first | refine WP_if rfl (fun c9 => ?_) (fun c9 => ?_) | refine WP_ifb rfl (fun c9 => ?_) (fun c9 => ?_)
                  · exact absurd (by omega : False) id
                  · skip
                    refine (WP_skip (thenQ_n (hK8 _ _ ?_)))
                    refine WP_seq_k fun K10 hK10 => ?_
                    refine WP_region ?_
                    refine RL_do rfl rfl (Do_move (v := .slice _ _ _) rfl) ?_
                    refine RL_call rfl rfl (DoC_func en62 rfl) (Get_f w96 _ (Blk.slr (Sep.blk (i := 2) H rfl) 98 1 (by rw [bys_length, g2]) (by decide))) ?_
                    rintro _ w97 ⟨rfl, hB⟩
                    replace H := H.below hB
                    refine ⟨_, rfl, ?_⟩
                    refine RL_do rfl rfl (Do_move (v := .tuple _) rfl) ?_
                    refine RL_do rfl rfl (Do_extract (v := .agg _) rfl rfl) ?_
                    refine RL_do rfl rfl (Do_extract (v := .int _ _) rfl rfl) ?_
                    refine RL_ex rfl rfl (Ex_alloc zero25) ?_
                    rintro _ w98 ⟨b16, rfl, hA⟩
                    replace H := H.alloc hA
                    refine RL_exU rfl (Ex_storeAll sz25 (by simp [wds_length, bys_length, FR_len, BR_at]) rfl rfl (one_wds) (Sep.blk (i := 3) H rfl) (by simp [wds_length, bys_length, FR_len, BR_at])) ?_
                    rintro w99 hW
                    replace H := H.wr (i := 3) rfl hW
                    refine RL_do rfl rfl (Do_assign (v := .int _ _) rfl) ?_
                    refine (RL_nil (thenQ_n (hK10 _ _ ?_)))
                    refine WP_seq_k fun K11 hK11 => ?_
                    refine WP_region ?_
                    refine RL_do rfl rfl (Do_move (v := .int _ _) rfl) ?_
                    refine RL_do rfl rfl (Do_eql rfl rfl) ?_
                    first | refine RL_split rfl rfl rfl (fun c10 => ?_) (fun c10 => ?_) | refine RL_splitb rfl rfl rfl (fun c10 => ?_) (fun c10 => ?_)
                    · skip
                      refine RL_do rfl rfl (Do_loads agg25 rfl sz25 (by simp [wds_length, bys_length, FR_len, BR_at]) (Blk.cells (Sep.blk (i := 3) H rfl))) ?_
                      refine RL_do rfl rfl (Do_loads agg25 rfl sz25 (by simp [wds_length, bys_length, FR_len, BR_at]) (Blk.cells (Sep.blk (i := 1) H rfl))) ?_
                      refine RL_do rfl rfl (Do_eqlst (k := .u16) u25 u23 sz23 eg25 rfl rfl (by simp [wds_length, bys_length, FR_len, BR_at]) (by simp [wds_length, bys_length, FR_len, BR_at])) ?_
                      refine RL_do rfl rfl (Do_pick_t (v := .bool _) rfl rfl) ?_
                      refine RL_do rfl rfl (Do_assign (v := .bool _) rfl) ?_
                      refine (RL_nil (thenQ_n (hK11 _ _ ?_)))
                      refine (WP_ret (post1 (v1 := .bool _) rfl rfl ?_))
                      exact ⟨by rw [decide_eq_true rfl], H.kept⟩
                    · exact absurd (by omega : False) id
end Go.Proofs.YtafgmocdnjdmoaaDoor
