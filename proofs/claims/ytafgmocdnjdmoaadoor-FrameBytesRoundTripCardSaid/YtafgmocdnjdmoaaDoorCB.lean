/- Walks: what each function computes, for every argument; no condition but those that stand in the statements. -/
import Derived.Test.YtafgmocdnjdmoaaDoorRows
import Derived.Test.YtafgmocdnjdmoaaDoorCE
import Derived.Test.YtafgmocdnjdmoaaDoorDist
import Derived.Test.YtafgmocdnjdmoaaDoorByt
import Derived.Test.YtafgmocdnjdmoaaDoorOps5
namespace Go.Proofs.YtafgmocdnjdmoaaDoor
open Go.RowKit Go.OB Go.Fr1
theorem el3 : El Tryd.prog 3 1 8 ([.int .i64 0]) := ⟨by kernel_rfl, by kernel_rfl, by kernel_rfl, by decide, by decide⟩
theorem el5 : El Tryd.prog 5 1 1 ([.int .u8 0]) := ⟨by kernel_rfl, by kernel_rfl, by kernel_rfl, by decide, by decide⟩
theorem eg25 : Tryd.prog.eqGuardType Tryd.prog.depth 25 = false := by kernel_rfl
theorem en18 : Enters Tryd.prog 18 := ⟨_, Tryd.func18, rfl, by kernel_rfl⟩
theorem en32 : Enters Tryd.prog 32 := ⟨_, Tryd.func32, rfl, by kernel_rfl⟩
theorem en34 : Enters Tryd.prog 34 := ⟨_, Tryd.func34, rfl, by kernel_rfl⟩
theorem en62 : Enters Tryd.prog 62 := ⟨_, Tryd.func62, rfl, by kernel_rfl⟩
theorem New_f (w : World) (hg : Cells w ⟨0, 0, none⟩ (wds tab)) (v : Value) (hd : SlR w v 1 58 (ints dat)) (hw0 : 0 < w.heap.size) :
    Calls Tryd.prog 32 #[.int .i64 2050, v] w fun e w' => e = .returned (.tuple #[.agg (wds FR).toArray, .int .i64 0]) ∧ Below w.heap.size w w' := by
  have h := New_c 2050 v 58 dat (by decide) w hg hd hw0
  rw [newR_c] at h
  exact h
theorem Put_f (w : World) (b : Nat) (hb : Blk w b (bys (List.replicate 98 0)) 5) :
    Calls Tryd.prog 18 #[.slice (some ⟨b, 0, none⟩) 98 98, .int .i64 1, .agg (wds FR).toArray] w fun e w' => e = .returned (.int .i64 0) ∧ Only [b] w w' ∧ Blk w' b (bys BR) 5 := by
  have h := Put_c _ [] Z98 b 0 98 98 5 (by simp) (by decide) (by decide) 1 FR FR_len FR_small w (by rw [byr_nil]; exact hb)
  rw [putE_c, putL_c, byr_nil] at h
  exact h
theorem Get_f (w : World) (b : Nat) (hr : SlR w (.slice (some ⟨b, 0, none⟩) 98 98) 1 98 (bys BR)) :
    Calls Tryd.prog 62 #[.slice (some ⟨b, 0, none⟩) 98 98, .int .i64 1] w fun e w' => e = .returned (.tuple #[.agg (wds FR).toArray, .int .i64 0]) ∧ Below w.heap.size w w' := by
  have h := Get_c _ 98 98 BR BR_byte 1 w hr
  rw [getR_c] at h
  exact h

/-- orangebox/orangeboxlaw1.framed -/
theorem framed_c  (w : World) (hg : Cells w ⟨0, 0, none⟩ (wds tab)) (hw0 : 0 < w.heap.size) :
    Calls Tryd.prog 21 #[] w fun e w' => e = .returned (.bool true) ∧ Below w.heap.size w w' := by
  obtain ⟨e0, e1, e2, e3⟩ := FR_at
  obtain ⟨g0, g1, g2⟩ := BR_at
  have fl0 := flaws_c
  refine calls_of_WP (args := []) 71 Tryd.func21 rfl rfl rfl ?_
  have H := Sep.start [] w
  refine WP_seq_k fun K1 hK1 => ?_
  refine WP_region ?_
  refine RL_do rfl rfl (Do_assign rfl) ?_
  refine (RL_nil (thenQ_n (hK1 _ _ ?_)))
  refine WP_seq_k fun K2 hK2 => ?_
  refine WP_region ?_
  refine RL_ex rfl rfl (Ex_ms (n := 58) (cs := List.replicate 58 (.int .i64 0)) u46 el3 rfl rfl (by decide) (by decide) (by kernel_rfl)) ?_
  rintro _ w89 ⟨b13, rfl, hA⟩
  replace H := H.alloc hA
  refine RL_do rfl rfl (Do_assign (v := .slice _ _ _) rfl) ?_
  refine (RL_nil (thenQ_n (hK2 _ _ ?_)))
  refine WP_seq_k fun K3 hK3 => ?_
  refine WP_region ?_
  refine RL_do rfl rfl (Do_move (v := .slice _ _ _) rfl) ?_
  refine RL_do rfl rfl (Do_idx1 u46 sz3 rfl rfl (by omega) (by omega) (rfl : _ = 0) (by first | exact Nat.zero_add _ | rfl)) ?_
  refine RL_exU rfl (Ex_store1 sz3 rfl rfl rfl (Sep.blk (i := 0) H rfl) (by simp)) ?_
  rintro w90 hW
  replace H := H.wr (i := 0) rfl hW
  replace H := H.conv (i := 0) rfl (cs' := ints dat) rfl
  refine (RL_nil (thenQ_n (hK3 _ _ ?_)))
  refine WP_seq_k fun K4 hK4 => ?_
  refine WP_region ?_
  refine RL_do rfl rfl (Do_move (v := .slice _ _ _) rfl) ?_
  refine RL_call rfl rfl (DoC_func en32 rfl) (New_f w90 (hg.only (Sep.only H) (by simp)) _ (Blk.slr (Sep.blk (i := 0) H rfl) 58 1 rfl (by decide)) (by have := (Sep.only H).size; omega)) ?_
  rintro _ w91 ⟨rfl, hB⟩
  replace H := H.below hB
  refine ⟨_, rfl, ?_⟩
  refine RL_do rfl rfl (Do_move (v := .tuple _) rfl) ?_
  refine RL_do rfl rfl (Do_extract (v := .agg _) rfl rfl) ?_
  refine RL_do rfl rfl (Do_extract (v := .int _ _) rfl rfl) ?_
  refine RL_ex rfl rfl (Ex_alloc zero25) ?_
  rintro _ w92 ⟨b14, rfl, hA⟩
  replace H := H.alloc hA
  refine RL_exU rfl (Ex_storeAll sz25 (by simp [wds_length, bys_length, FR_len, BR_at]) rfl rfl (one_wds) (Sep.blk (i := 1) H rfl) (by simp [wds_length, bys_length, FR_len, BR_at])) ?_
  rintro w93 hW
  replace H := H.wr (i := 1) rfl hW
  refine RL_do rfl rfl (Do_assign (v := .int _ _) rfl) ?_
  refine (RL_nil (thenQ_n (hK4 _ _ ?_)))
  refine WP_seq_k fun K5 hK5 => ?_
  refine WP_seq_k fun K6 hK6 => ?_
  refine WP_region ?_
  refine RL_do rfl rfl (Do_move (v := .int _ _) rfl) ?_
  refine RL_do rfl rfl (Do_neq rfl rfl) ?_
  first | refine RL_split rfl rfl rfl (fun c1 => ?_) (fun c1 => ?_) | refine RL_splitb rfl rfl rfl (fun c1 => ?_) (fun c1 => ?_)
  · exact absurd (by omega : False) id
  · skip
    refine RL_do rfl rfl (Do_idxa1 u25 sz23 rfl rfl (by omega) (by omega) (rfl : _ = 0) (by first | exact Nat.zero_add _ | rfl)) ?_
    refine RL_do rfl rfl (Do_load one23 rfl (Blk.cell (Sep.blk (i := 1) H rfl) (wds_get (by rw [FR_len]; omega)))) ?_
    refine RL_do rfl rfl (Do_neq rfl rfl) ?_
    refine RL_do rfl rfl (Do_pick_f (v := .bool _) rfl rfl) ?_
    first | refine RL_split rfl rfl rfl (fun c2 => ?_) (fun c2 => ?_) | refine RL_splitb rfl rfl rfl (fun c2 => ?_) (fun c2 => ?_)
    · exact absurd (by omega : False) id
    · skip
      refine RL_do rfl rfl (Do_idxa1 u25 sz23 rfl rfl (by omega) (by omega) (rfl : _ = 1) (by first | exact Nat.zero_add _ | rfl)) ?_
      refine RL_do rfl rfl (Do_load one23 rfl (Blk.cell (Sep.blk (i := 1) H rfl) (wds_get (by rw [FR_len]; omega)))) ?_
      refine RL_do rfl rfl (Do_neq rfl rfl) ?_
      refine RL_do rfl rfl (Do_pick_f (v := .bool _) rfl rfl) ?_
      first | refine RL_split rfl rfl rfl (fun c3 => ?_) (fun c3 => ?_) | refine RL_splitb rfl rfl rfl (fun c3 => ?_) (fun c3 => ?_)
      · exact absurd (by omega : False) id
      · skip
        refine RL_do rfl rfl (Do_idxa1 u25 sz23 rfl rfl (by omega) (by omega) (rfl : _ = 2) (by first | exact Nat.zero_add _ | rfl)) ?_
        refine RL_do rfl rfl (Do_load one23 rfl (Blk.cell (Sep.blk (i := 1) H rfl) (wds_get (by rw [FR_len]; omega)))) ?_
        refine RL_do rfl rfl (Do_neq rfl rfl) ?_
        refine RL_do rfl rfl (Do_pick_f (v := .bool _) rfl rfl) ?_
        first | refine RL_split rfl rfl rfl (fun c4 => ?_) (fun c4 => ?_) | refine RL_splitb rfl rfl rfl (fun c4 => ?_) (fun c4 => ?_)
        · exact absurd (by omega : False) id
        · skip
          refine RL_do rfl rfl (Do_idxa1 u25 sz23 rfl rfl (by omega) (by omega) (rfl : _ = 3) (by first | exact Nat.zero_add _ | rfl)) ?_
          refine RL_do rfl rfl (Do_load one23 rfl (Blk.cell (Sep.blk (i := 1) H rfl) (wds_get (by rw [FR_len]; omega)))) ?_
          refine RL_do rfl rfl (Do_neq rfl rfl) ?_
          refine RL_do rfl rfl (Do_pick_f (v := .bool _) rfl rfl) ?_
          first | refine RL_split rfl rfl rfl (fun c5 => ?_) (fun c5 => ?_) | refine RL_splitb rfl rfl rfl (fun c5 => ?_) (fun c5 => ?_)
          · exact absurd (by omega : False) id
          · skip
            refine RL_do rfl rfl (Do_loads agg25 rfl sz25 (by simp [wds_length, bys_length, FR_len, BR_at]) (Blk.cells (Sep.blk (i := 1) H rfl))) ?_
            refine RL_call rfl rfl (DoC_func en34 rfl) (Flaws_c FR FR_len FR_small w93 (hg.only (Sep.only H) (by simp))) ?_
            rintro _ w94 ⟨v, rfl, hv, hB⟩
            rw [fl0] at hv
            simp only [List.length_nil, Nat.zero_div] at hv
            obtain ⟨sa, sc, rfl⟩ := (owns_slr hv).shape
            replace H := H.below hB
            refine ⟨_, rfl, ?_⟩
            refine RL_do rfl rfl (Do_len u50 rfl) ?_
            refine RL_do rfl rfl (Do_neq rfl rfl) ?_
            refine RL_do rfl rfl (Do_pick_f (v := .bool _) rfl rfl) ?_
            refine (RL_nil (thenQ_n (hK6 _ _ ?_)))
            first | refine WP_if rfl (fun c6 => ?_) (fun c6 => ?_) | refine WP_ifb rfl (fun c6 => ?_) (fun c6 => ?_)
            · exact absurd (by omega : False) id
            · skip
              refine (WP_skip (thenQ_n (hK5 _ _ ?_)))
              refine WP_seq_k fun K7 hK7 => ?_
              refine WP_region ?_
              refine RL_ex rfl rfl (Ex_ms (n := 98) (cs := List.replicate 98 (.int .u8 0)) u22 el5 rfl rfl (by decide) (by decide) (by kernel_rfl)) ?_
              rintro _ w95 ⟨b15, rfl, hA⟩
              replace H := H.alloc hA
              replace H := H.conv (i := 2) rfl (cs' := bys (List.replicate 98 0)) rfl
              refine RL_do rfl rfl (Do_assign (v := .slice _ _ _) rfl) ?_
              refine (RL_nil (thenQ_n (hK7 _ _ ?_)))
              refine WP_seq_k fun K8 hK8 => ?_
              refine WP_seq_k fun K9 hK9 => ?_
              refine WP_region ?_
              refine RL_do rfl rfl (Do_move (v := .slice _ _ _) rfl) ?_
              refine RL_do rfl rfl (Do_loads agg25 rfl sz25 (by simp [wds_length, bys_length, FR_len, BR_at]) (Blk.cells (Sep.blk (i := 1) H rfl))) ?_
              refine RL_call rfl rfl (DoC_func en18 rfl) (Put_f w95 _ (Sep.blk (i := 2) H rfl)) ?_
              rintro _ w96 ⟨rfl, hO, hB⟩
              replace H := H.write (i := 2) rfl hB hO
              refine ⟨_, rfl, ?_⟩
              refine RL_do rfl rfl (Do_neq rfl rfl) ?_
              first | refine RL_split rfl rfl rfl (fun c7 => ?_) (fun c7 => ?_) | refine RL_splitb rfl rfl rfl (fun c7 => ?_) (fun c7 => ?_)
              · exact absurd (by omega : False) id
              · skip
                refine RL_do rfl rfl (Do_move (v := .slice _ _ _) rfl) ?_
                refine RL_do rfl rfl (Do_idx1 u22 sz5 rfl rfl (by omega) (by omega) (rfl : _ = 0) (by first | exact Nat.zero_add _ | rfl)) ?_
                refine RL_do rfl rfl (Do_load one5 rfl (Blk.cell (Sep.blk (i := 2) H rfl) (bys_getw (by rw [g2]; omega)))) ?_
                refine RL_do rfl rfl (Do_neq rfl rfl) ?_
                refine RL_do rfl rfl (Do_pick_f (v := .bool _) rfl rfl) ?_
                first | refine RL_split rfl rfl rfl (fun c8 => ?_) (fun c8 => ?_) | refine RL_splitb rfl rfl rfl (fun c8 => ?_) (fun c8 => ?_)
                · exact absurd (by omega : False) id
                · skip
                  refine RL_do rfl rfl (Do_move (v := .slice _ _ _) rfl) ?_
                  refine RL_do rfl rfl (Do_idx1 u22 sz5 rfl rfl (by omega) (by omega) (rfl : _ = 97) (by first | exact Nat.zero_add _ | rfl)) ?_
                  refine RL_do rfl rfl (Do_load one5 rfl (Blk.cell (Sep.blk (i := 2) H rfl) (bys_getw (by rw [g2]; omega)))) ?_
                  refine RL_do rfl rfl (Do_neq rfl rfl) ?_
                  refine RL_do rfl rfl (Do_pick_f (v := .bool _) rfl rfl) ?_
                  refine (RL_nil (thenQ_n (hK9 _ _ ?_)))
                  first | refine WP_if rfl (fun c9 => ?_) (fun c9 => ?_) | refine WP_ifb rfl (fun c9 => ?_) (fun c9 => ?_)
                  · exact absurd (by omega : False) id
                  · skip
                    refine (WP_skip (thenQ_n (hK8 _ _ ?_)))
                    refine WP_seq_k fun K10 hK10 => ?_
                    refine WP_region ?_
                    refine RL_do rfl rfl (Do_move (v := .slice _ _ _) rfl) ?_
                    refine RL_call rfl rfl (DoC_func en62 rfl) (Get_f w96 _ (Blk.slr (Sep.blk (i := 2) H rfl) 98 1 (by rw [bys_length, g2]) (by decide))) ?_
                    rintro _ w97 ⟨rfl, hB⟩
                    replace H := H.below hB
                    refine ⟨_, rfl, ?_⟩
                    refine RL_do rfl rfl (Do_move (v := .tuple _) rfl) ?_
                    refine RL_do rfl rfl (Do_extract (v := .agg _) rfl rfl) ?_
                    refine RL_do rfl rfl (Do_extract (v := .int _ _) rfl rfl) ?_
                    refine RL_ex rfl rfl (Ex_alloc zero25) ?_
                    rintro _ w98 ⟨b16, rfl, hA⟩
                    replace H := H.alloc hA
                    refine RL_exU rfl (Ex_storeAll sz25 (by simp [wds_length, bys_length, FR_len, BR_at]) rfl rfl (one_wds) (Sep.blk (i := 3) H rfl) (by simp [wds_length, bys_length, FR_len, BR_at])) ?_
                    rintro w99 hW
                    replace H := H.wr (i := 3) rfl hW
                    refine RL_do rfl rfl (Do_assign (v := .int _ _) rfl) ?_
                    refine (RL_nil (thenQ_n (hK10 _ _ ?_)))
                    refine WP_seq_k fun K11 hK11 => ?_
                    refine WP_region ?_
                    refine RL_do rfl rfl (Do_move (v := .int _ _) rfl) ?_
                    refine RL_do rfl rfl (Do_eql rfl rfl) ?_
                    first | refine RL_split rfl rfl rfl (fun c10 => ?_) (fun c10 => ?_) | refine RL_splitb rfl rfl rfl (fun c10 => ?_) (fun c10 => ?_)
                    · skip
                      refine RL_do rfl rfl (Do_loads agg25 rfl sz25 (by simp [wds_length, bys_length, FR_len, BR_at]) (Blk.cells (Sep.blk (i := 3) H rfl))) ?_
                      refine RL_do rfl rfl (Do_loads agg25 rfl sz25 (by simp [wds_length, bys_length, FR_len, BR_at]) (Blk.cells (Sep.blk (i := 1) H rfl))) ?_
                      refine RL_do rfl rfl (Do_eqlst (k := .u16) u25 u23 sz23 eg25 rfl rfl (by simp [wds_length, bys_length, FR_len, BR_at]) (by simp [wds_length, bys_length, FR_len, BR_at])) ?_
                      refine RL_do rfl rfl (Do_pick_t (v := .bool _) rfl rfl) ?_
                      refine RL_do rfl rfl (Do_assign (v := .bool _) rfl) ?_
                      refine (RL_nil (thenQ_n (hK11 _ _ ?_)))
                      refine (WP_ret (post1 (v1 := .bool _) rfl rfl ?_))
                      exact ⟨by rw [decide_eq_true rfl], H.kept⟩
                    · exact absurd (by omega : False) id
end Go.Proofs.YtafgmocdnjdmoaaDoor
namespace Go.Proofs.YtafgmocdnjdmoaaDoor
open Go.RowKit Go.OB Go.Fr1
theorem en21 : Enters Tryd.prog 21 := ⟨_, Tryd.func21, rfl, by kernel_rfl⟩
theorem en26 : Enters Tryd.prog 26 := ⟨_, Tryd.func26, rfl, by kernel_rfl⟩
theorem en27 : Enters Tryd.prog 27 := ⟨_, Tryd.func27, rfl, by kernel_rfl⟩
theorem en28 : Enters Tryd.prog 28 := ⟨_, Tryd.func28, rfl, by kernel_rfl⟩
theorem en29 : Enters Tryd.prog 29 := ⟨_, Tryd.func29, rfl, by kernel_rfl⟩
theorem en30 : Enters Tryd.prog 30 := ⟨_, Tryd.func30, rfl, by kernel_rfl⟩
theorem en31 : Enters Tryd.prog 31 := ⟨_, Tryd.func31, rfl, by kernel_rfl⟩
/-- orangebox/orangeboxlaw1.FrameWordMatchesSpec -/
theorem FrameWord_c (n : Int) (w : World) (hg : Cells w ⟨0, 0, none⟩ (wds tab)) (hw0 : 0 < w.heap.size) :
    Calls Tryd.prog 6 #[.int .i64 n] w fun e w' => e = .returned (.bool true) ∧ Below w.heap.size w w' := by
  refine calls_of_WP (args := [.int .i64 n]) 75 Tryd.func6 rfl rfl rfl ?_
  have H := Sep.start [] w
  refine WP_seq_k fun K1 hK1 => ?_
  refine WP_region ?_
  refine RL_do rfl rfl (Do_assign rfl) ?_
  refine (RL_nil (thenQ_n (hK1 _ _ ?_)))
  refine WP_seq_k fun K2 hK2 => ?_
  refine WP_region ?_
  refine RL_do rfl rfl (Do_move (v := .int _ _) rfl) ?_
  refine RL_call rfl rfl (DoC_func en26 rfl) (Word_c n w) ?_
  rintro _ w100 ⟨rfl, hB⟩
  replace H := H.below hB
  refine ⟨_, rfl, ?_⟩
  refine RL_do rfl rfl (Do_move (v := .tuple _) rfl) ?_
  refine RL_do rfl rfl (Do_extract (v := .int _ _) rfl rfl) ?_
  refine RL_do rfl rfl (Do_extract (v := .int _ _) rfl rfl) ?_
  refine RL_do rfl rfl (Do_assign (v := .int _ _) rfl) ?_
  refine RL_do rfl rfl (Do_assign (v := .int _ _) rfl) ?_
  refine (RL_nil (thenQ_n (hK2 _ _ ?_)))
  refine WP_seq_k fun K3 hK3 => ?_
  refine WP_region ?_
  refine RL_do rfl rfl (Do_move (v := .int _ _) rfl) ?_
  refine RL_call rfl rfl (DoC_func en27 rfl) (WordRef_c n w100) ?_
  rintro _ w101 ⟨rfl, hB⟩
  replace H := H.below hB
  refine ⟨_, rfl, ?_⟩
  refine RL_do rfl rfl (Do_move (v := .tuple _) rfl) ?_
  refine RL_do rfl rfl (Do_extract (v := .int _ _) rfl rfl) ?_
  refine RL_do rfl rfl (Do_extract (v := .int _ _) rfl rfl) ?_
  refine RL_do rfl rfl (Do_assign (v := .int _ _) rfl) ?_
  refine RL_do rfl rfl (Do_assign (v := .int _ _) rfl) ?_
  refine (RL_nil (thenQ_n (hK3 _ _ ?_)))
  refine WP_seq_k fun K4 hK4 => ?_
  refine WP_seq_k fun K5 hK5 => ?_
  refine WP_region ?_
  refine RL_do rfl rfl (Do_move (v := .int _ _) rfl) ?_
  refine RL_do rfl rfl (Do_move (v := .int _ _) rfl) ?_
  refine RL_do rfl rfl (Do_neq rfl rfl) ?_
  first | refine RL_split rfl rfl rfl (fun c1 => ?_) (fun c1 => ?_) | refine RL_splitb rfl rfl rfl (fun c1 => ?_) (fun c1 => ?_)
  · exact absurd (by omega : False) id
  · skip
    refine RL_do rfl rfl (Do_move (v := .int _ _) rfl) ?_
    refine RL_do rfl rfl (Do_move (v := .int _ _) rfl) ?_
    refine RL_do rfl rfl (Do_neq rfl rfl) ?_
    refine RL_do rfl rfl (Do_pick_f (v := .bool _) rfl rfl) ?_
    refine (RL_nil (thenQ_n (hK5 _ _ ?_)))
    first | refine WP_if rfl (fun c2 => ?_) (fun c2 => ?_) | refine WP_ifb rfl (fun c2 => ?_) (fun c2 => ?_)
    · exact absurd (by omega : False) id
    · skip
      refine (WP_skip (thenQ_n (hK4 _ _ ?_)))
      refine WP_seq_k fun K6 hK6 => ?_
      refine WP_region ?_
      refine RL_do rfl rfl (Do_move (v := .int _ _) rfl) ?_
      refine RL_call rfl rfl (DoC_func en28 rfl) (Data_c n w101) ?_
      rintro _ w102 ⟨rfl, hB⟩
      replace H := H.below hB
      refine ⟨_, rfl, ?_⟩
      refine RL_do rfl rfl (Do_move (v := .tuple _) rfl) ?_
      refine RL_do rfl rfl (Do_extract (v := .int _ _) rfl rfl) ?_
      refine RL_do rfl rfl (Do_extract (v := .bool _) rfl rfl) ?_
      refine RL_do rfl rfl (Do_extract (v := .int _ _) rfl rfl) ?_
      refine RL_do rfl rfl (Do_assign (v := .int _ _) rfl) ?_
      refine RL_do rfl rfl (Do_assign (v := .bool _) rfl) ?_
      refine RL_do rfl rfl (Do_assign (v := .int _ _) rfl) ?_
      refine (RL_nil (thenQ_n (hK6 _ _ ?_)))
      refine WP_seq_k fun K7 hK7 => ?_
      refine WP_region ?_
      refine RL_do rfl rfl (Do_move (v := .int _ _) rfl) ?_
      refine RL_call rfl rfl (DoC_func en29 rfl) (DataRef_c n w102) ?_
      rintro _ w103 ⟨rfl, hB⟩
      replace H := H.below hB
      refine ⟨_, rfl, ?_⟩
      refine RL_do rfl rfl (Do_move (v := .tuple _) rfl) ?_
      refine RL_do rfl rfl (Do_extract (v := .int _ _) rfl rfl) ?_
      refine RL_do rfl rfl (Do_extract (v := .bool _) rfl rfl) ?_
      refine RL_do rfl rfl (Do_extract (v := .int _ _) rfl rfl) ?_
      refine RL_do rfl rfl (Do_assign (v := .int _ _) rfl) ?_
      refine RL_do rfl rfl (Do_assign (v := .bool _) rfl) ?_
      refine RL_do rfl rfl (Do_assign (v := .int _ _) rfl) ?_
      refine (RL_nil (thenQ_n (hK7 _ _ ?_)))
      refine WP_seq_k fun K8 hK8 => ?_
      refine WP_seq_k fun K9 hK9 => ?_
      refine WP_region ?_
      refine RL_do rfl rfl (Do_move (v := .int _ _) rfl) ?_
      refine RL_do rfl rfl (Do_move (v := .int _ _) rfl) ?_
      refine RL_do rfl rfl (Do_neq rfl rfl) ?_
      first | refine RL_split rfl rfl rfl (fun c3 => ?_) (fun c3 => ?_) | refine RL_splitb rfl rfl rfl (fun c3 => ?_) (fun c3 => ?_)
      · exact absurd (by omega : False) id
      · skip
        refine RL_do rfl rfl (Do_move (v := .bool _) rfl) ?_
        refine RL_do rfl rfl (Do_move (v := .bool _) rfl) ?_
        refine RL_do rfl rfl (Do_neqb u4 rfl rfl) ?_
        refine RL_do rfl rfl (Do_pick_f (v := .bool _) rfl rfl) ?_
        first | refine RL_split rfl rfl rfl (fun c4 => ?_) (fun c4 => ?_) | refine RL_splitb rfl rfl rfl (fun c4 => ?_) (fun c4 => ?_)
        · exact absurd (by simp at c4 : False) id
        · skip
          refine RL_do rfl rfl (Do_move (v := .int _ _) rfl) ?_
          refine RL_do rfl rfl (Do_move (v := .int _ _) rfl) ?_
          refine RL_do rfl rfl (Do_neq rfl rfl) ?_
          refine RL_do rfl rfl (Do_pick_f (v := .bool _) rfl rfl) ?_
          refine (RL_nil (thenQ_n (hK9 _ _ ?_)))
          first | refine WP_if rfl (fun c5 => ?_) (fun c5 => ?_) | refine WP_ifb rfl (fun c5 => ?_) (fun c5 => ?_)
          · exact absurd (by omega : False) id
          · skip
            refine (WP_skip (thenQ_n (hK8 _ _ ?_)))
            refine WP_seq_k fun K10 hK10 => ?_
            refine WP_region ?_
            refine RL_do rfl rfl (Do_move (v := .int _ _) rfl) ?_
            refine RL_call rfl rfl (DoC_func en30 rfl) (Sync_c n w103 (hg.only (Sep.only H) (by simp))) ?_
            rintro _ w104 ⟨rfl, hB⟩
            replace H := H.below hB
            refine ⟨_, rfl, ?_⟩
            refine RL_do rfl rfl (Do_move (v := .tuple _) rfl) ?_
            refine RL_do rfl rfl (Do_extract (v := .int _ _) rfl rfl) ?_
            refine RL_do rfl rfl (Do_extract (v := .int _ _) rfl rfl) ?_
            refine RL_do rfl rfl (Do_assign (v := .int _ _) rfl) ?_
            refine RL_do rfl rfl (Do_assign (v := .int _ _) rfl) ?_
            refine (RL_nil (thenQ_n (hK10 _ _ ?_)))
            refine WP_seq_k fun K11 hK11 => ?_
            refine WP_region ?_
            refine RL_do rfl rfl (Do_move (v := .int _ _) rfl) ?_
            refine RL_call rfl rfl (DoC_func en31 rfl) (SyncRef_c n w104) ?_
            rintro _ w105 ⟨rfl, hB⟩
            replace H := H.below hB
            refine ⟨_, rfl, ?_⟩
            refine RL_do rfl rfl (Do_move (v := .tuple _) rfl) ?_
            refine RL_do rfl rfl (Do_extract (v := .int _ _) rfl rfl) ?_
            refine RL_do rfl rfl (Do_extract (v := .int _ _) rfl rfl) ?_
            refine RL_do rfl rfl (Do_assign (v := .int _ _) rfl) ?_
            refine RL_do rfl rfl (Do_assign (v := .int _ _) rfl) ?_
            refine (RL_nil (thenQ_n (hK11 _ _ ?_)))
            refine WP_seq_k fun K12 hK12 => ?_
            refine WP_region ?_
            refine RL_do rfl rfl (Do_move (v := .int _ _) rfl) ?_
            refine RL_do rfl rfl (Do_move (v := .int _ _) rfl) ?_
            refine RL_do rfl rfl (Do_eql rfl rfl) ?_
            first | refine RL_split rfl rfl rfl (fun c6 => ?_) (fun c6 => ?_) | refine RL_splitb rfl rfl rfl (fun c6 => ?_) (fun c6 => ?_)
            · skip
              refine RL_do rfl rfl (Do_move (v := .int _ _) rfl) ?_
              refine RL_do rfl rfl (Do_move (v := .int _ _) rfl) ?_
              refine RL_do rfl rfl (Do_eql rfl rfl) ?_
              refine RL_do rfl rfl (Do_pick_t (v := .bool _) rfl rfl) ?_
              first | refine RL_split rfl rfl rfl (fun c7 => ?_) (fun c7 => ?_) | refine RL_splitb rfl rfl rfl (fun c7 => ?_) (fun c7 => ?_)
              · skip
                refine RL_call rfl rfl (DoC_func en21 rfl) (framed_c w105 (hg.only (Sep.only H) (by simp)) (by have := (Sep.only H).size; omega)) ?_
                rintro _ w106 ⟨rfl, hB⟩
                replace H := H.below hB
                refine ⟨_, rfl, ?_⟩
                refine RL_do rfl rfl (Do_pick_t (v := .bool _) rfl rfl) ?_
                refine RL_do rfl rfl (Do_assign (v := .bool _) rfl) ?_
                refine (RL_nil (thenQ_n (hK12 _ _ ?_)))
                refine (WP_ret (post1 (v1 := .bool _) rfl rfl ?_))
                exact ⟨rfl, H.kept⟩
              · exact absurd (by omega : False) id
            · exact absurd (by omega : False) id
end Go.Proofs.YtafgmocdnjdmoaaDoor
namespace Go.Proofs.YtafgmocdnjdmoaaDoor
open Go.RowKit Go.OB Go.Fr1
/-- orangebox/frame.Distance -/
theorem Dist_c (f h_ : List Nat) (hf : f.length = 64) (hg : h_.length = 64) (sf : Small f) (sg : Small h_) (w : World) :
    Calls Tryd.prog 22 #[.agg (wds f).toArray, .agg (wds h_).toArray] w fun e w' => e = .returned (.int .i64 (distN f h_ : Nat)) ∧ Below w.heap.size w w' := by
  refine calls_of_WP (args := [.agg (wds f).toArray, .agg (wds h_).toArray]) 22 Tryd.func22 rfl rfl rfl ?_
  have H := Sep.start [] w
  refine WP_seq_k fun K1 hK1 => ?_
  refine WP_region ?_
  refine RL_ex rfl rfl (Ex_box rfl) ?_
  rintro _ w107 ⟨b17, rfl, hA⟩
  replace H := H.alloc hA
  refine RL_ex rfl rfl (Ex_box rfl) ?_
  rintro _ w108 ⟨b18, rfl, hA⟩
  replace H := H.alloc hA
  refine RL_do rfl rfl (Do_assign rfl) ?_
  refine (RL_nil (thenQ_n (hK1 _ _ ?_)))
  refine WP_seq_k fun K2 hK2 => ?_
  refine WP_region ?_
  refine RL_do rfl rfl (Do_assign rfl) ?_
  refine (RL_nil (thenQ_n (hK2 _ _ ?_)))
  refine WP_seq_k fun K3 hK3 => ?_
  refine WP_seq_k fun K4 hK4 => ?_
  refine WP_region ?_
  refine RL_do rfl rfl (Do_move rfl) ?_
  refine (RL_nil (thenQ_n (hK4 _ _ ?_)))
  refine WP_block ?_
  refine WP_loopS [5, 6, 7, 8, 9, 10, 11, 12, 13, 14, 15, 16, 17, 18, 19, 20] (fun (g : Nat) => [(5, .int .i64 (distTo f h_ g : Nat)), (7, .int .i64 (g : Nat))]) (fun (g : Nat) wl => Sep [] w wl [.blk b17 (wds f) 25, .blk b18 (wds h_) 25] ∧ g ≤ 64) (fun (g : Nat) => 64 - g) (0) (Sl_cons rfl (Sl_cons rfl Sl_nil)) ⟨H, by decide⟩ ?_
  clear H
  rintro k ρ w109 ⟨H, hk⟩
  refine WP_seq_k fun K5 hK5 => ?_
  refine WP_region ?_
  refine RL_do rfl rfl (Do_lss rfl rfl) ?_
  refine (RL_nil (thenQ_n (hK5 _ _ ?_)))
  refine WP_seq_k fun K6 hK6 => ?_
  first | refine WP_if rfl (fun c1 => ?_) (fun c1 => ?_) | refine WP_ifb rfl (fun c1 => ?_) (fun c1 => ?_)
  · skip
    refine (WP_skip (thenQ_n (hK6 _ _ ?_)))
    refine WP_seq_k fun K7 hK7 => ?_
    refine WP_block ?_
    refine WP_seq_k fun K8 hK8 => ?_
    refine WP_region ?_
    refine RL_do rfl rfl (Do_move (v := .int _ _) rfl) ?_
    refine RL_do rfl rfl (Do_assign (v := .int _ _) rfl) ?_
    refine (RL_nil (thenQ_n (hK8 _ _ ?_)))
    refine WP_mix [.pure, .pure, .pure, .read, .pure, .pure, .read, .pure, .read, .pure, .pure] mixed (by kernel_rfl) (by kernel_rfl) (by kernel_rfl) ?_
    refine XL_pure rfl rfl rfl (fun w' => Do_move (v := .int _ _) rfl) ?_
    have q1 := distTo_le f h_ k
    have q2 := pop_le (wd f k ^^^ wd h_ k)
    refine XL_pure rfl rfl rfl (fun w' => Do_move (v := .int _ _) rfl) ?_
    refine XL_pure rfl rfl rfl (fun w' => Do_idxa1 u25 sz23 rfl rfl (by omega) (by omega) (by omega : _ = k) (by first | exact Nat.zero_add _ | rfl)) ?_
    refine XL_read rfl rfl rfl (fun w' hw' => Do_load one23 rfl (Blk.cell (Sep.blk (i := 0) (Sep.sees H hw') rfl) (wds_get (by omega)))) ?_
    refine XL_pure rfl rfl rfl (fun w' => Do_move (v := .int _ _) rfl) ?_
    refine XL_pure rfl rfl rfl (fun w' => Do_idxa1 u25 sz23 rfl rfl (by omega) (by omega) (by omega : _ = k) (by first | exact Nat.zero_add _ | rfl)) ?_
    refine XL_read rfl rfl rfl (fun w' hw' => Do_load one23 rfl (Blk.cell (Sep.blk (i := 1) (Sep.sees H hw') rfl) (wds_get (by omega)))) ?_
    refine XL_pure rfl rfl rfl (fun w' => Do_xor rfl rfl (xor_u16' (wd f k) (wd h_ k) rfl rfl (sf k) (sg k))) ?_
    refine XL_call rfl rfl rfl (fun w' hw' => DoC_func en80 rfl) (fun w' hw' => ones_c _ (wd f k ^^^ wd h_ k) rfl (Nat.xor_lt_two_pow (n := 16) (sf k) (sg k)) w') ?_
    refine XL_pure rfl rfl rfl (fun w' => Do_add rfl rfl (wrap_i64 (by omega) (by omega))) ?_
    refine XL_pure rfl rfl rfl (fun w' => Do_assign (v := .int _ _) rfl) ?_
    refine XL_nil fun w110 hS => ?_
    replace H := H.sees hS
    refine (blockQ_n (thenQ_n (hK7 _ _ ?_)))
    refine WP_region ?_
    refine RL_do rfl rfl (Do_add rfl rfl (wrap_i64 (by omega) (by omega))) ?_
    refine RL_do rfl rfl (Do_move (v := .int _ _) rfl) ?_
    refine (RL_nil (thenQ_n (And.intro ?_ ?_)))
    · repeat' (first | with_reducible exact Fr_refl | refine Fr_upd rfl ?_ | refine Fr_over rfl rfl ?_)
    · refine ⟨k + 1, (Sl_cons (vint (by show _ = ((distTo f h_ k + pop (wd f k ^^^ wd h_ k) : Nat) : Int); omega)) (Sl_cons (vint (by omega)) Sl_nil)), ?_, ?_⟩
      · exact ⟨H, by omega⟩
      · simp; omega
  · skip
    refine (WP_exit (thenQ_x (thenQ_x (blockQ_eq (thenQ_n (hK3 _ _ ?_))))))
    refine WP_seq_k fun K9 hK9 => ?_
    refine WP_region ?_
    refine RL_do rfl rfl (Do_move (v := .int _ _) rfl) ?_
    refine RL_do rfl rfl (Do_assign (v := .int _ _) rfl) ?_
    refine (RL_nil (thenQ_n (hK9 _ _ ?_)))
    refine (WP_ret (post1 (v1 := .int _ _) rfl rfl ?_))
    exact ⟨by rw [distN_eq (show k = 64 by omega)], H.kept⟩

/-- orangebox/orangeboxref1.Distance -/
theorem DistRef_c (f h_ : List Nat) (hf : f.length = 64) (hg : h_.length = 64) (sf : Small f) (sg : Small h_) (w : World) :
    Calls Tryd.prog 23 #[.agg (wds f).toArray, .agg (wds h_).toArray] w fun e w' => e = .returned (.int .i64 (distN f h_ : Nat)) ∧ Below w.heap.size w w' := by
  refine calls_of_WP (args := [.agg (wds f).toArray, .agg (wds h_).toArray]) 29 Tryd.func23 rfl rfl rfl ?_
  have H := Sep.start [] w
  refine WP_seq_k fun K1 hK1 => ?_
  refine WP_region ?_
  refine RL_ex rfl rfl (Ex_box rfl) ?_
  rintro _ w111 ⟨b19, rfl, hA⟩
  replace H := H.alloc hA
  refine RL_ex rfl rfl (Ex_box rfl) ?_
  rintro _ w112 ⟨b20, rfl, hA⟩
  replace H := H.alloc hA
  refine RL_do rfl rfl (Do_assign rfl) ?_
  refine (RL_nil (thenQ_n (hK1 _ _ ?_)))
  refine WP_seq_k fun K2 hK2 => ?_
  refine WP_region ?_
  refine RL_do rfl rfl (Do_assign rfl) ?_
  refine (RL_nil (thenQ_n (hK2 _ _ ?_)))
  refine WP_seq_k fun K3 hK3 => ?_
  refine WP_seq_k fun K4 hK4 => ?_
  refine WP_region ?_
  refine RL_do rfl rfl (Do_move rfl) ?_
  refine (RL_nil (thenQ_n (hK4 _ _ ?_)))
  refine WP_block ?_
  refine WP_loopS [5, 6, 7, 8, 9, 10, 11, 12, 13, 14, 15, 16, 17, 18, 19, 20, 21, 22, 23, 24, 25, 26, 27] (fun (g : Nat) => [(5, .int .i64 (distTo f h_ g : Nat)), (8, .int .i64 (g : Nat))]) (fun (g : Nat) wl => Sep [] w wl [.blk b19 (wds f) 25, .blk b20 (wds h_) 25] ∧ g ≤ 64) (fun (g : Nat) => 64 - g) (0) (Sl_cons rfl (Sl_cons rfl Sl_nil)) ⟨H, by decide⟩ ?_
  clear H
  rintro k ρ w113 ⟨H, hk⟩
  refine WP_seq_k fun K5 hK5 => ?_
  refine WP_region ?_
  refine RL_do rfl rfl (Do_lss rfl rfl) ?_
  refine (RL_nil (thenQ_n (hK5 _ _ ?_)))
  refine WP_seq_k fun K6 hK6 => ?_
  first | refine WP_if rfl (fun c1 => ?_) (fun c1 => ?_) | refine WP_ifb rfl (fun c1 => ?_) (fun c1 => ?_)
  · skip
    refine (WP_skip (thenQ_n (hK6 _ _ ?_)))
    refine WP_seq_k fun K7 hK7 => ?_
    refine WP_block ?_
    refine WP_seq_k fun K8 hK8 => ?_
    refine WP_region ?_
    refine RL_do rfl rfl (Do_move (v := .int _ _) rfl) ?_
    have q1 := distTo_le f h_ k
    have q2 := pop_le (wd f k ^^^ wd h_ k)
    have q3 : wd f k ^^^ wd h_ k < 65536 := Nat.xor_lt_two_pow (n := 16) (sf k) (sg k)
    refine RL_do rfl rfl (Do_assign (v := .int _ _) rfl) ?_
    refine (RL_nil (thenQ_n (hK8 _ _ ?_)))
    refine WP_seq_k fun K9 hK9 => ?_
    refine WP_mix [.pure, .pure, .read, .pure, .pure, .read, .pure, .pure] mixed (by kernel_rfl) (by kernel_rfl) (by kernel_rfl) ?_
    refine XL_pure rfl rfl rfl (fun w' => Do_move (v := .int _ _) rfl) ?_
    refine XL_pure rfl rfl rfl (fun w' => Do_idxa1 u25 sz23 rfl rfl (by omega) (by omega) (by omega : _ = k) (by first | exact Nat.zero_add _ | rfl)) ?_
    refine XL_read rfl rfl rfl (fun w' hw' => Do_load one23 rfl (Blk.cell (Sep.blk (i := 0) (Sep.sees H hw') rfl) (wds_get (by omega)))) ?_
    refine XL_pure rfl rfl rfl (fun w' => Do_move (v := .int _ _) rfl) ?_
    refine XL_pure rfl rfl rfl (fun w' => Do_idxa1 u25 sz23 rfl rfl (by omega) (by omega) (by omega : _ = k) (by first | exact Nat.zero_add _ | rfl)) ?_
    refine XL_read rfl rfl rfl (fun w' hw' => Do_load one23 rfl (Blk.cell (Sep.blk (i := 1) (Sep.sees H hw') rfl) (wds_get (by omega)))) ?_
    refine XL_pure rfl rfl rfl (fun w' => Do_xor rfl rfl (xor_u16' (wd f k) (wd h_ k) rfl rfl (sf k) (sg k))) ?_
    refine XL_pure rfl rfl rfl (fun w' => Do_assign (v := .int _ _) rfl) ?_
    refine XL_nil fun w114 hS => ?_
    replace H := H.sees hS
    refine (thenQ_n (hK9 _ _ ?_))
    refine WP_block ?_
    refine WP_loopS2 [5, 7, 18, 19, 20, 21, 22, 23, 24, 25, 26] (fun (g : Nat) (h : Nat) => [(7, .int .u16 (g : Nat)), (5, .int .i64 (h : Nat))]) (fun (g : Nat) (h : Nat) wl => Sep [] w wl [.blk b19 (wds f) 25, .blk b20 (wds h_) 25] ∧ g ≤ wd f k ^^^ wd h_ k ∧ h + pop g = distTo f h_ k + pop (wd f k ^^^ wd h_ k)) (fun (g : Nat) (h : Nat) => g) (wd f k ^^^ wd h_ k) (distTo f h_ k) (Sl_cons rfl (Sl_cons rfl Sl_nil)) ⟨H, ⟨Nat.le_refl _, rfl⟩⟩ ?_
    clear H
    rintro m n ρ w115 ⟨H, ⟨hm, hn⟩⟩
    refine WP_seq_k fun K10 hK10 => ?_
    refine WP_seq_k fun K11 hK11 => ?_
    refine WP_region ?_
    refine RL_do rfl rfl (Do_move (v := .int _ _) rfl) ?_
    refine RL_do rfl rfl (Do_gtr rfl rfl) ?_
    refine (RL_nil (thenQ_n (hK11 _ _ ?_)))
    first | refine WP_if rfl (fun c2 => ?_) (fun c2 => ?_) | refine WP_ifb rfl (fun c2 => ?_) (fun c2 => ?_)
    · skip
      refine (WP_skip (thenQ_n (hK10 _ _ ?_)))
      refine WP_seq_k fun K12 hK12 => ?_
      refine WP_block ?_
      refine WP_region ?_
      refine RL_do rfl rfl (Do_move (v := .int _ _) rfl) ?_
      refine RL_do rfl rfl (Do_move (v := .int _ _) rfl) ?_
      refine RL_do rfl rfl (Do_rem rfl rfl (by omega) (by omega)) ?_
      refine RL_do rfl rfl (Do_conv u23 u3 rfl (wrap_i64 (by omega) (by omega))) ?_
      refine RL_do rfl rfl (Do_add rfl rfl (wrap_i64 (by omega) (by omega))) ?_
      refine RL_do rfl rfl (Do_assign (v := .int _ _) rfl) ?_
      refine (RL_nil (blockQ_n (thenQ_n (hK12 _ _ ?_))))
      refine WP_region ?_
      refine RL_do rfl rfl (Do_move (v := .int _ _) rfl) ?_
      refine RL_do rfl rfl (Do_quo rfl rfl (by omega) (by omega) (wrap_u16 (by omega) (by omega))) ?_
      refine RL_do rfl rfl (Do_assign (v := .int _ _) rfl) ?_
      refine (RL_nil (thenQ_n (And.intro ?_ ?_)))
      · repeat' (first | with_reducible exact Fr_refl | refine Fr_upd rfl ?_ | refine Fr_over rfl rfl ?_)
      · refine ⟨m / 2, n + m % 2, (Sl_cons (vint (by omega)) (Sl_cons (vint (by omega)) Sl_nil)), ?_, ?_⟩
        · exact ⟨H, by omega, by rw [← hn, pop_half (m := m) (by omega)]; omega⟩
        · omega
    · skip
      refine (WP_exit (thenQ_x (thenQ_x (blockQ_eq (blockQ_n (thenQ_n (hK7 _ _ ?_)))))))
      refine WP_region ?_
      (obtain rfl : m = 0 := by omega)
      rw [pop_zero] at hn
      refine RL_do rfl rfl (Do_add rfl rfl (wrap_i64 (by omega) (by omega))) ?_
      refine RL_do rfl rfl (Do_move (v := .int _ _) rfl) ?_
      refine (RL_nil (thenQ_n (And.intro ?_ ?_)))
      · repeat' (first | with_reducible exact Fr_refl | refine Fr_upd rfl ?_ | refine Fr_over rfl rfl ?_)
      · refine ⟨k + 1, (Sl_cons (vint (by show _ = ((distTo f h_ k + pop (wd f k ^^^ wd h_ k) : Nat) : Int); omega)) (Sl_cons (vint (by omega)) Sl_nil)), ?_, ?_⟩
        · exact ⟨H, by omega⟩
        · simp; omega
  · skip
    refine (WP_exit (thenQ_x (thenQ_x (blockQ_eq (thenQ_n (hK3 _ _ ?_))))))
    refine WP_seq_k fun K13 hK13 => ?_
    refine WP_region ?_
    refine RL_do rfl rfl (Do_move (v := .int _ _) rfl) ?_
    refine RL_do rfl rfl (Do_assign (v := .int _ _) rfl) ?_
    refine (RL_nil (thenQ_n (hK13 _ _ ?_)))
    refine (WP_ret (post1 (v1 := .int _ _) rfl rfl ?_))
    exact ⟨by rw [distN_eq (show k = 64 by omega)], H.kept⟩
end Go.Proofs.YtafgmocdnjdmoaaDoor
namespace Go.Proofs.YtafgmocdnjdmoaaDoor
open Go.RowKit Go.OB Go.Fr1
theorem en22 : Enters Tryd.prog 22 := ⟨_, Tryd.func22, rfl, by kernel_rfl⟩
theorem en23 : Enters Tryd.prog 23 := ⟨_, Tryd.func23, rfl, by kernel_rfl⟩
/-- orangebox/orangeboxlaw1.FrameDistanceIsAMetric -/
theorem FrameDistance_c (f1 f2 f3 : List Nat) (l1 : f1.length = 64) (l2 : f2.length = 64) (l3 : f3.length = 64) (s1 : Small f1) (s2 : Small f2) (s3 : Small f3) (w : World) (hg : Cells w ⟨0, 0, none⟩ (wds tab)) (hw0 : 0 < w.heap.size) :
    Calls Tryd.prog 4 #[.agg (wds f1).toArray, .agg (wds f2).toArray, .agg (wds f3).toArray] w fun e w' => e = .returned (.bool true) ∧ Below w.heap.size w w' := by
  have z := distN_zero l1 l2 s1 s2
  have q1 := distN_comm f1 f2
  have q2 := distN_tri f1 f2 f3
  have q3 := distN_le f1 f3
  have q4 := distN_le f3 f2
  have z2 : decide ((distN f1 f2 : Int) = 0) = decide (f1 = f2) := decide_eq_decide.2 (by rw [← z]; omega)
  refine calls_of_WP (args := [.agg (wds f1).toArray, .agg (wds f2).toArray, .agg (wds f3).toArray]) 45 Tryd.func4 rfl rfl rfl ?_
  have H := Sep.start [] w
  refine WP_seq_k fun K1 hK1 => ?_
  refine WP_region ?_
  refine RL_ex rfl rfl (Ex_box rfl) ?_
  rintro _ w116 ⟨b21, rfl, hA⟩
  replace H := H.alloc hA
  refine RL_ex rfl rfl (Ex_box rfl) ?_
  rintro _ w117 ⟨b22, rfl, hA⟩
  replace H := H.alloc hA
  refine RL_ex rfl rfl (Ex_box rfl) ?_
  rintro _ w118 ⟨b23, rfl, hA⟩
  replace H := H.alloc hA
  refine RL_do rfl rfl (Do_assign rfl) ?_
  refine (RL_nil (thenQ_n (hK1 _ _ ?_)))
  refine WP_seq_k fun K2 hK2 => ?_
  refine WP_region ?_
  refine RL_do rfl rfl (Do_loads agg25 rfl sz25 (by simp [wds_length, bys_length, l1, l2, l3]) (Blk.cells (Sep.blk (i := 0) H rfl))) ?_
  refine RL_do rfl rfl (Do_loads agg25 rfl sz25 (by simp [wds_length, bys_length, l1, l2, l3]) (Blk.cells (Sep.blk (i := 1) H rfl))) ?_
  refine RL_call rfl rfl (DoC_func en22 rfl) (Dist_c f1 f2 l1 l2 s1 s2 w118) ?_
  rintro _ w119 ⟨rfl, hB⟩
  replace H := H.below hB
  refine ⟨_, rfl, ?_⟩
  refine RL_do rfl rfl (Do_assign (v := .int _ _) rfl) ?_
  refine (RL_nil (thenQ_n (hK2 _ _ ?_)))
  refine WP_seq_k fun K3 hK3 => ?_
  refine WP_mix [.pure, .read, .read, .read, .pure, .pure, .pure, .pure, .read, .read, .pure, .pure, .pure, .pure, .pure, .read, .read, .read, .pure, .pure, .pure, .pure, .read, .read, .read, .read, .read, .read, .pure, .pure, .pure, .pure, .read, .pure, .pure] mixed (by kernel_rfl) (by kernel_rfl) (by kernel_rfl) ?_
  refine XL_pure rfl rfl rfl (fun w' => Do_move (v := .int _ _) rfl) ?_
  refine XL_read rfl rfl rfl (fun w' hw' => Do_loads agg25 rfl sz25 (by simp [wds_length, bys_length, l1, l2, l3]) (Blk.cells (Sep.blk (i := 0) (Sep.sees H hw') rfl))) ?_
  refine XL_read rfl rfl rfl (fun w' hw' => Do_loads agg25 rfl sz25 (by simp [wds_length, bys_length, l1, l2, l3]) (Blk.cells (Sep.blk (i := 1) (Sep.sees H hw') rfl))) ?_
  refine XL_call rfl rfl rfl (fun w' hw' => DoC_func en23 rfl) (fun w' hw' => DistRef_c f1 f2 l1 l2 s1 s2 w') ?_
  refine XL_pure rfl rfl rfl (fun w' => Do_eql rfl rfl) ?_
  first | refine XL_split rfl rfl rfl rfl (fun c1 => ?_) (fun c1 => ?_) | refine XL_splitb rfl rfl rfl rfl (fun c1 => ?_) (fun c1 => ?_)
  · skip
    refine XL_pure rfl rfl rfl (fun w' => Do_move (v := .int _ _) rfl) ?_
    refine XL_pure rfl rfl rfl (fun w' => Do_eql rfl rfl) ?_
    refine XL_read rfl rfl rfl (fun w' hw' => Do_loads agg25 rfl sz25 (by simp [wds_length, bys_length, l1, l2, l3]) (Blk.cells (Sep.blk (i := 0) (Sep.sees H hw') rfl))) ?_
    refine XL_read rfl rfl rfl (fun w' hw' => Do_loads agg25 rfl sz25 (by simp [wds_length, bys_length, l1, l2, l3]) (Blk.cells (Sep.blk (i := 1) (Sep.sees H hw') rfl))) ?_
    refine XL_pure rfl rfl rfl (fun w' => Do_eqlst (k := .u16) u25 u23 sz23 eg25 rfl rfl (by simp [wds_length, bys_length, l1, l2, l3]) (by simp [wds_length, bys_length, l1, l2, l3])) ?_
    refine XL_pure rfl rfl rfl (fun w' => Do_eqlb u4 rfl rfl) ?_
    refine XL_pure rfl rfl rfl (fun w' => Do_pick_t (v := .bool _) rfl rfl) ?_
    first | refine XL_split rfl rfl rfl rfl (fun c2 => ?_) (fun c2 => ?_) | refine XL_splitb rfl rfl rfl rfl (fun c2 => ?_) (fun c2 => ?_)
    · skip
      refine XL_pure rfl rfl rfl (fun w' => Do_move (v := .int _ _) rfl) ?_
      refine XL_read rfl rfl rfl (fun w' hw' => Do_loads agg25 rfl sz25 (by simp [wds_length, bys_length, l1, l2, l3]) (Blk.cells (Sep.blk (i := 1) (Sep.sees H hw') rfl))) ?_
      refine XL_read rfl rfl rfl (fun w' hw' => Do_loads agg25 rfl sz25 (by simp [wds_length, bys_length, l1, l2, l3]) (Blk.cells (Sep.blk (i := 0) (Sep.sees H hw') rfl))) ?_
      refine XL_call rfl rfl rfl (fun w' hw' => DoC_func en22 rfl) (fun w' hw' => Dist_c f2 f1 l2 l1 s2 s1 w') ?_
      refine XL_pure rfl rfl rfl (fun w' => Do_eql rfl rfl) ?_
      refine XL_pure rfl rfl rfl (fun w' => Do_pick_t (v := .bool _) rfl rfl) ?_
      first | refine XL_split rfl rfl rfl rfl (fun c3 => ?_) (fun c3 => ?_) | refine XL_splitb rfl rfl rfl rfl (fun c3 => ?_) (fun c3 => ?_)
      · skip
        refine XL_pure rfl rfl rfl (fun w' => Do_move (v := .int _ _) rfl) ?_
        refine XL_read rfl rfl rfl (fun w' hw' => Do_loads agg25 rfl sz25 (by simp [wds_length, bys_length, l1, l2, l3]) (Blk.cells (Sep.blk (i := 0) (Sep.sees H hw') rfl))) ?_
        refine XL_read rfl rfl rfl (fun w' hw' => Do_loads agg25 rfl sz25 (by simp [wds_length, bys_length, l1, l2, l3]) (Blk.cells (Sep.blk (i := 2) (Sep.sees H hw') rfl))) ?_
        refine XL_call rfl rfl rfl (fun w' hw' => DoC_func en22 rfl) (fun w' hw' => Dist_c f1 f3 l1 l3 s1 s3 w') ?_
        refine XL_read rfl rfl rfl (fun w' hw' => Do_loads agg25 rfl sz25 (by simp [wds_length, bys_length, l1, l2, l3]) (Blk.cells (Sep.blk (i := 2) (Sep.sees H hw') rfl))) ?_
        refine XL_read rfl rfl rfl (fun w' hw' => Do_loads agg25 rfl sz25 (by simp [wds_length, bys_length, l1, l2, l3]) (Blk.cells (Sep.blk (i := 1) (Sep.sees H hw') rfl))) ?_
        refine XL_call rfl rfl rfl (fun w' hw' => DoC_func en22 rfl) (fun w' hw' => Dist_c f3 f2 l3 l2 s3 s2 w') ?_
        refine XL_pure rfl rfl rfl (fun w' => Do_add rfl rfl (wrap_i64 (by omega) (by omega))) ?_
        refine XL_pure rfl rfl rfl (fun w' => Do_leq rfl rfl) ?_
        refine XL_pure rfl rfl rfl (fun w' => Do_pick_t (v := .bool _) rfl rfl) ?_
        first | refine XL_split rfl rfl rfl rfl (fun c4 => ?_) (fun c4 => ?_) | refine XL_splitb rfl rfl rfl rfl (fun c4 => ?_) (fun c4 => ?_)
        · skip
          refine XL_call rfl rfl rfl (fun w' hw' => DoC_func en21 rfl) (fun w' hw' => framed_c w' (hg.only (Sep.only (Sep.sees H hw')) (by simp)) (by have := (Sep.only (Sep.sees H hw')).size; omega)) ?_
          refine XL_pure rfl rfl rfl (fun w' => Do_pick_t (v := .bool _) rfl rfl) ?_
          refine XL_pure rfl rfl rfl (fun w' => Do_assign (v := .bool _) rfl) ?_
          refine XL_nil fun w120 hS => ?_
          replace H := H.sees hS
          refine (thenQ_n (hK3 _ _ ?_))
          refine (WP_ret (post1 (v1 := .bool _) rfl rfl ?_))
          exact ⟨rfl, H.kept⟩
        · exact absurd (by omega : False) id
      · exact absurd (by omega : False) id
    · exact absurd (by rw [z2] at c2; simp at c2 : False) id
  · exact absurd (by omega : False) id
end Go.Proofs.YtafgmocdnjdmoaaDoor
namespace Go.Proofs.YtafgmocdnjdmoaaDoor
open Go.RowKit Go.OB Go.Fr1
theorem en19 : Enters Tryd.prog 19 := ⟨_, Tryd.func19, rfl, by kernel_rfl⟩
/-- bytes.Equal -/
theorem beq_c (v1 : Value) (m1 : Nat) (x1 : List Nat) (b1_ : Byte x1) (v2 : Value) (m2 : Nat) (x2 : List Nat) (b2_ : Byte x2) (w : World) (h1 : SlR w v1 1 m1 (bys x1)) (h2 : SlR w v2 1 m2 (bys x2)) :
    Calls Tryd.prog 19 #[v1, v2] w fun e w' => e = .returned (.bool (decide (x1 = x2))) ∧ Below w.heap.size w w' := by
  refine calls_of_WP (args := [v1, v2]) 10 Tryd.func19 rfl rfl rfl ?_
  have H := Sep.start [] w
  refine WP_seq_k fun K1 hK1 => ?_
  refine WP_region ?_
  refine RL_do rfl rfl (Do_assign rfl) ?_
  refine (RL_nil (thenQ_n (hK1 _ _ ?_)))
  refine WP_seq_k fun K2 hK2 => ?_
  refine WP_region ?_
  refine RL_do rfl rfl (Do_move (v := v1) rfl) ?_
  refine RL_do rfl rfl (Do_bstr u22 u5 u9 rfl (h1.only (Sep.only H) (by simp))) ?_
  refine RL_do rfl rfl (Do_move (v := v2) rfl) ?_
  refine RL_do rfl rfl (Do_bstr u22 u5 u9 rfl (h2.only (Sep.only H) (by simp))) ?_
  refine RL_do rfl rfl (Do_eqlstr rfl rfl) ?_
  refine RL_do rfl rfl (Do_assign (v := .bool _) rfl) ?_
  refine (RL_nil (thenQ_n (hK2 _ _ ?_)))
  refine (WP_ret (post1 (v1 := .bool _) rfl rfl ?_))
  exact ⟨retb (strN_inj (byte_mem b1_) (byte_mem b2_)), H.kept⟩

/-- orangebox/orangeboxlaw1.inside -/
theorem inside_c (v : Value) (xs : List Nat) (m : Nat) (hm : xs.length = m) (hx : Byte xs) (hB : m ≤ 140737488351232) (w : World) (hr : SlR w v 1 m (bys xs)) :
    Calls Tryd.prog 16 #[v] w fun e w' => ∃ g cap R_, e = .returned (.tuple #[.slice (some ⟨g, 0, none⟩) (m + 12) cap, .slice (some ⟨g, 5, none⟩) m (cap - 5)]) ∧ Blk w' g (byr (ins xs) R_) 5 ∧ m + 12 ≤ cap ∧ cap ≤ maxLen ∧ w.heap.size ≤ g ∧ Below w.heap.size w w' := by
  refine calls_of_WP (args := [v]) 15 Tryd.func16 rfl rfl rfl ?_
  obtain ⟨va, vc, rfl⟩ := hr.shape
  have H := Sep.start [] w
  refine WP_seq_k fun K1 hK1 => ?_
  refine WP_region ?_
  refine RL_do rfl rfl (Do_assign rfl) ?_
  refine RL_do rfl rfl (Do_assign rfl) ?_
  refine (RL_nil (thenQ_n (hK1 _ _ ?_)))
  refine WP_seq_k fun K2 hK2 => ?_
  refine WP_region ?_
  refine RL_ex rfl rfl (Ex_bs u22 el5 (by decide) (by decide) (fillB_nums (ns := [1, 2, 3, 4, 5]) rfl rfl)) ?_
  rintro _ w121 ⟨b24, rfl, hA⟩
  replace H := H.alloc hA
  replace H := H.asSl (i := 0) rfl 5 1 rfl (by decide)
  refine RL_do rfl rfl (Do_move (v := .slice _ _ _) rfl) ?_
  refine RL_ex rfl rfl (Ex_append u22 el5 rfl rfl (Sep.sl (i := 0) H rfl) (hr.only (Sep.only H) (by simp)) one_bys (by rw [maxLen_eq]; omega) (by omega)) ?_
  rintro va6 w122 hA
  replace H := H.app (i := 0) rfl hA
  refine RL_ex rfl rfl (Ex_bs u22 el5 (by decide) (by decide) (fillB_nums (ns := [9, 8, 7, 6, 5, 4, 3]) rfl rfl)) ?_
  rintro _ w123 ⟨b25, rfl, hA⟩
  replace H := H.alloc hA
  refine RL_ex rfl rfl (Ex_append u22 el5 rfl rfl (Sep.sl (i := 0) H rfl) (Blk.slr (Sep.blk (i := 1) H rfl) 7 1 rfl (by decide)) (by simp [Value.oneCell']) (by rw [maxLen_eq]; omega) (by omega)) ?_
  rintro va7 w124 hA
  replace H := H.app (i := 0) rfl hA
  refine RL_do rfl rfl (Do_assign (v := va7) rfl) ?_
  refine (RL_nil (thenQ_n (hK2 _ _ ?_)))
  refine WP_seq_k fun K3 hK3 => ?_
  refine WP_mix [.pure, .pure, .pure, .pure, .pure, .pure, .pure, .pure] mixed (by kernel_rfl) (by kernel_rfl) (by kernel_rfl) ?_
  obtain ⟨g, cap, R0, rfl, -, hc1, hc2⟩ := owns_some (Sep.sl (i := 0) H rfl) (by omega)
  have hc3 := hc2
  rw [maxLen_eq] at hc3
  have hg2 := (Sep.ge (i := 0) H rfl (b := g) (by simp [It.blocks, ob, sblk])).resolve_right (by simp)
  refine XL_pure rfl rfl rfl (fun w' => Do_move (v := .slice _ _ _) rfl) ?_
  refine XL_pure rfl rfl rfl (fun w' => Do_move (v := .slice _ _ _) rfl) ?_
  refine XL_pure rfl rfl rfl (fun w' => Do_move (v := .slice _ _ _) rfl) ?_
  refine XL_pure rfl rfl rfl (fun w' => Do_len u22 rfl) ?_
  refine XL_pure rfl rfl rfl (fun w' => Do_add rfl rfl (wrap_i64 (by omega) (by omega))) ?_
  refine XL_pure rfl rfl rfl (fun w' => Do_slice_in u22 sz5 (i := 5) (j := m) rfl rfl rfl (by omega) (by omega) (by omega) (by omega) rfl) ?_
  refine XL_pure rfl rfl rfl (fun w' => Do_assign (v := .slice _ _ _) rfl) ?_
  refine XL_pure rfl rfl rfl (fun w' => Do_assign (v := .slice _ _ _) rfl) ?_
  refine XL_nil fun w125 hS => ?_
  replace H := H.sees hS
  refine (thenQ_n (hK3 _ _ ?_))
  refine (WP_ret (post2 (v1 := .slice _ _ _) (v2 := .slice _ _ _) rfl rfl rfl ?_))
  obtain ⟨g1, cap1, R_, e1, hg, -, -⟩ := owns_some (H.sl (i := 0) rfl) (by omega)
  cases e1
  refine ⟨g, cap, R_, by rw [show 5 + m + 7 = m + 12 by omega], ?_, by omega, hc2, hg2, H.kept⟩
  have e : byr (ins xs) R_ = (List.map (Value.int IntKind.u8) [1, 2, 3, 4, 5] ++ bys xs ++ List.map (Value.int IntKind.u8) [9, 8, 7, 6, 5, 4, 3]) ++ R_ := by simp [byr, bys, ins, pre5, post7]
  rw [e]; exact hg

/-- orangebox/orangeboxlaw1.kept -/
theorem kept_c (xs : List Nat) (m : Nat) (hm : xs.length = m) (hx : Byte xs) (b cap : Nat) (R_ : List Value) (hc : m + 12 ≤ cap) (hc2 : cap ≤ maxLen) (w : World) (hb : Blk w b (byr (ins xs) R_) 5) :
    Calls Tryd.prog 20 #[.slice (some ⟨b, 0, none⟩) (m + 12) cap] w fun e w' => e = .returned (.bool true) ∧ Below w.heap.size w w' := by
  refine calls_of_WP (args := [.slice (some ⟨b, 0, none⟩) (m + 12) cap]) 16 Tryd.func20 rfl rfl rfl ?_
  rw [maxLen_eq] at hc2
  subst hm
  have H := Sep.start [] w
  refine WP_seq_k fun K1 hK1 => ?_
  refine WP_region ?_
  refine RL_do rfl rfl (Do_assign rfl) ?_
  refine (RL_nil (thenQ_n (hK1 _ _ ?_)))
  refine WP_seq_k fun K2 hK2 => ?_
  refine WP_region ?_
  refine RL_do rfl rfl (Do_move (v := .slice _ _ _) rfl) ?_
  refine RL_do rfl rfl (Do_slice_hi u22 sz5 (j := 5) rfl rfl rfl (by omega) (by omega)) ?_
  refine RL_ex rfl rfl (Ex_bs u22 el5 (by decide) (by decide) (fillB_nums (ns := [1, 2, 3, 4, 5]) rfl rfl)) ?_
  rintro _ w126 ⟨b26, rfl, hA⟩
  replace H := H.alloc hA
  refine RL_call rfl rfl (DoC_func en19 rfl) (beq_c _ 5 pre5 (all_small (by decide) (by decide)) _ 5 pre5 (all_small (by decide) (by decide)) w126 (Blk.slo (hb.only (Sep.only H) (by simp)) (o := 0) (n := 5) (s := 1) (xs := bys pre5) (by rw [byr_part (by rw [ins_len]; omega)]; exact congrArg bys (ins_pre xs)) rfl (by omega) (by rw [maxLen_eq]; omega)) (Blk.slr (Sep.blk (i := 0) H rfl) 5 1 rfl (by decide))) ?_
  rintro _ w127 ⟨rfl, hB⟩
  replace H := H.below hB
  refine ⟨_, rfl, ?_⟩
  first | refine RL_split rfl rfl rfl (fun c1 => ?_) (fun c1 => ?_) | refine RL_splitb rfl rfl rfl (fun c1 => ?_) (fun c1 => ?_)
  · skip
    refine RL_do rfl rfl (Do_move (v := .slice _ _ _) rfl) ?_
    refine RL_do rfl rfl (Do_move (v := .slice _ _ _) rfl) ?_
    refine RL_do rfl rfl (Do_len u22 rfl) ?_
    refine RL_do rfl rfl (Do_sub rfl rfl (wrap_i64 (by omega) (by omega))) ?_
    refine RL_do rfl rfl (Do_slice_lo u22 sz5 (i := xs.length + 5) (m := xs.length + 5) rfl rfl (by omega) (by omega) (by omega) (by omega)) ?_
    refine RL_ex rfl rfl (Ex_bs u22 el5 (by decide) (by decide) (fillB_nums (ns := [9, 8, 7, 6, 5, 4, 3]) rfl rfl)) ?_
    rintro _ w128 ⟨b27, rfl, hA⟩
    replace H := H.alloc hA
    refine RL_call rfl rfl (DoC_func en19 rfl) (beq_c _ 7 post7 (all_small (by decide) (by decide)) _ 7 post7 (all_small (by decide) (by decide)) w128 (((Blk.slo (hb.only (Sep.only H) (by simp)) (o := xs.length + 5) (n := 7) (s := 1) (xs := bys post7) (by rw [byr_part (by rw [ins_len]; omega)]; exact congrArg bys (ins_post xs)) rfl (by omega) (by rw [maxLen_eq]; omega)) : SlR _ (.slice (some ⟨b, xs.length + 5, none⟩) 7 (cap - (xs.length + 5))) 1 7 (bys post7)) |> fun h => by rwa [show xs.length + 12 - (xs.length + 5) = 7 by omega]) (Blk.slr (Sep.blk (i := 1) H rfl) 7 1 rfl (by decide))) ?_
    rintro _ w129 ⟨rfl, hB⟩
    replace H := H.below hB
    refine ⟨_, rfl, ?_⟩
    refine RL_do rfl rfl (Do_pick_t (v := .bool _) rfl rfl) ?_
    refine RL_do rfl rfl (Do_assign (v := .bool _) rfl) ?_
    refine (RL_nil (thenQ_n (hK2 _ _ ?_)))
    refine (WP_ret (post1 (v1 := .bool _) rfl rfl ?_))
    exact ⟨by rw [decide_eq_true rfl], H.kept⟩
  · exact absurd (by exact c1 rfl : False) id
end Go.Proofs.YtafgmocdnjdmoaaDoor
namespace Go.Proofs.YtafgmocdnjdmoaaDoor
open Go.RowKit Go.OB Go.Fr1
theorem en107 : Enters Tryd.prog 107 := ⟨_, Tryd.func107, rfl, by kernel_rfl⟩
/-- orangebox/orangeboxref1.Place -/
theorem Place_c (va : Option Addr) (m vc : Nat) (a n : Int) (hm : m ≤ 9223372036854775807) (hn : 0 ≤ n) (hn2 : n ≤ 1000) (w : World) :
    Calls Tryd.prog 73 #[.slice va m vc, .int .i64 a, .int .i64 n] w fun e w' => e = .returned (.int .i64 (placeN m a n)) ∧ Below w.heap.size w w' := by
  refine calls_of_WP (args := [.slice va m vc, .int .i64 a, .int .i64 n]) 21 Tryd.func73 rfl rfl rfl ?_
  have H := Sep.start [] w
  refine WP_seq_k fun K1 hK1 => ?_
  refine WP_region ?_
  refine RL_do rfl rfl (Do_assign rfl) ?_
  refine (RL_nil (thenQ_n (hK1 _ _ ?_)))
  refine WP_seq_k fun K2 hK2 => ?_
  refine WP_seq_k fun K3 hK3 => ?_
  refine WP_region ?_
  refine RL_do rfl rfl (Do_move (v := .int _ _) rfl) ?_
  refine RL_do rfl rfl (Do_lss rfl rfl) ?_
  refine (RL_nil (thenQ_n (hK3 _ _ ?_)))
  first | refine WP_if rfl (fun c1 => ?_) (fun c1 => ?_) | refine WP_ifb rfl (fun c1 => ?_) (fun c1 => ?_)
  · skip
    refine WP_seq_k fun K4 hK4 => ?_
    refine WP_region ?_
    refine RL_do rfl rfl (Do_assign rfl) ?_
    refine (RL_nil (thenQ_n (hK4 _ _ ?_)))
    refine (WP_ret (thenQ_r (post1 (v1 := .int _ _) rfl rfl ?_)))
    exact ⟨reti (placeN_1 (by omega)).symm, H.kept⟩
  · skip
    refine (WP_skip (thenQ_n (hK2 _ _ ?_)))
    refine WP_seq_k fun K5 hK5 => ?_
    refine WP_seq_k fun K6 hK6 => ?_
    refine WP_region ?_
    refine RL_do rfl rfl (Do_move (v := .int _ _) rfl) ?_
    refine RL_do rfl rfl (Do_move (v := .slice _ _ _) rfl) ?_
    refine RL_do rfl rfl (Do_len u22 rfl) ?_
    refine RL_do rfl rfl (Do_gtr rfl rfl) ?_
    first | refine RL_split rfl rfl rfl (fun c2 => ?_) (fun c2 => ?_) | refine RL_splitb rfl rfl rfl (fun c2 => ?_) (fun c2 => ?_)
    · skip
      refine RL_off rfl rfl ?_
      refine RL_off rfl rfl ?_
      refine RL_off rfl rfl ?_
      refine RL_off rfl rfl ?_
      refine RL_off rfl rfl ?_
      refine RL_off rfl rfl ?_
      refine RL_do rfl rfl (Do_pick_t (v := .bool _) rfl rfl) ?_
      refine (RL_nil (thenQ_n (hK6 _ _ ?_)))
      refine WP_ift rfl ?_
      refine WP_seq_k fun K7 hK7 => ?_
      refine WP_region ?_
      refine RL_do rfl rfl (Do_assign rfl) ?_
      refine (RL_nil (thenQ_n (hK7 _ _ ?_)))
      refine (WP_ret (thenQ_r (post1 (v1 := .int _ _) rfl rfl ?_)))
      exact ⟨reti (placeN_2 (by omega) (by omega)).symm, H.kept⟩
    · skip
      refine RL_do rfl rfl (Do_move (v := .slice _ _ _) rfl) ?_
      refine RL_do rfl rfl (Do_len u22 rfl) ?_
      refine RL_do rfl rfl (Do_move (v := .int _ _) rfl) ?_
      refine RL_do rfl rfl (Do_sub rfl rfl (wrap_i64 (by omega) (by omega))) ?_
      refine RL_do rfl rfl (Do_move (v := .int _ _) rfl) ?_
      refine RL_do rfl rfl (Do_lss rfl rfl) ?_
      refine RL_do rfl rfl (Do_pick_f (v := .bool _) rfl rfl) ?_
      refine (RL_nil (thenQ_n (hK6 _ _ ?_)))
      first | refine WP_if rfl (fun c3 => ?_) (fun c3 => ?_) | refine WP_ifb rfl (fun c3 => ?_) (fun c3 => ?_)
      · skip
        refine WP_seq_k fun K8 hK8 => ?_
        refine WP_region ?_
        refine RL_do rfl rfl (Do_assign rfl) ?_
        refine (RL_nil (thenQ_n (hK8 _ _ ?_)))
        refine (WP_ret (thenQ_r (post1 (v1 := .int _ _) rfl rfl ?_)))
        exact ⟨reti (placeN_2 (by omega) (by omega)).symm, H.kept⟩
      · skip
        refine (WP_skip (thenQ_n (hK5 _ _ ?_)))
        refine WP_seq_k fun K9 hK9 => ?_
        refine WP_region ?_
        refine RL_do rfl rfl (Do_assign rfl) ?_
        refine (RL_nil (thenQ_n (hK9 _ _ ?_)))
        refine (WP_ret (post1 (v1 := .int _ _) rfl rfl ?_))
        exact ⟨reti (placeN_3 (by omega) (by omega)).symm, H.kept⟩

/-- orangebox/orangeboxref1.Wide -/
theorem WideRef_c (f : List Nat) (hl : f.length = 64) (hs : Small f) (w : World) :
    Calls Tryd.prog 74 #[.agg (wds f).toArray] w fun e w' => e = .returned (.bool (decide (wideN f))) ∧ Below w.heap.size w w' := by
  refine calls_of_WP (args := [.agg (wds f).toArray]) 12 Tryd.func74 rfl rfl rfl ?_
  have H := Sep.start [] w
  refine WP_seq_k fun K1 hK1 => ?_
  refine WP_region ?_
  refine RL_ex rfl rfl (Ex_box rfl) ?_
  rintro _ w130 ⟨b28, rfl, hA⟩
  replace H := H.alloc hA
  refine RL_do rfl rfl (Do_assign rfl) ?_
  refine (RL_nil (thenQ_n (hK1 _ _ ?_)))
  refine WP_seq_k fun K2 hK2 => ?_
  refine WP_seq_k fun K3 hK3 => ?_
  refine WP_region ?_
  refine RL_do rfl rfl (Do_loads agg25 rfl sz25 (by simp [wds_length, bys_length, hl]) (Blk.cells (Sep.blk (i := 0) H rfl))) ?_
  refine RL_do rfl rfl (Do_move rfl) ?_
  refine (RL_nil (thenQ_n (hK3 _ _ ?_)))
  refine WP_block ?_
  refine WP_loopS [2, 4, 6, 7, 8, 9, 10, 11] (fun (g : Nat) => [(6, .int .i64 (g : Nat))]) (fun (g : Nat) wl => Sep [] w wl [.blk b28 (wds f) 25] ∧ g ≤ 64 ∧ ∀ i, i < g → ¬ 4095 < wd f i) (fun (g : Nat) => 64 - g) (0) (Sl_cons rfl Sl_nil) ⟨H, ⟨by decide, fun i h => by omega⟩⟩ ?_
  clear H
  rintro k ρ w131 ⟨H, ⟨hk, hi⟩⟩
  refine WP_seq_k fun K4 hK4 => ?_
  refine WP_region ?_
  refine RL_do rfl rfl (Do_lss rfl rfl) ?_
  refine (RL_nil (thenQ_n (hK4 _ _ ?_)))
  refine WP_seq_k fun K5 hK5 => ?_
  first | refine WP_if rfl (fun c1 => ?_) (fun c1 => ?_) | refine WP_ifb rfl (fun c1 => ?_) (fun c1 => ?_)
  · skip
    refine (WP_skip (thenQ_n (hK5 _ _ ?_)))
    refine WP_seq_k fun K6 hK6 => ?_
    refine WP_block ?_
    refine WP_seq_k fun K7 hK7 => ?_
    refine WP_region ?_
    refine RL_do rfl rfl (Do_index1 u25 one23 sz23 rfl rfl (by omega) (by omega) (by rw [Int.toNat_natCast]; exact wds_get (by omega))) ?_
    refine RL_do rfl rfl (Do_assign (v := .int _ _) rfl) ?_
    refine (RL_nil (thenQ_n (hK7 _ _ ?_)))
    refine WP_seq_k fun K8 hK8 => ?_
    refine WP_region ?_
    refine RL_do rfl rfl (Do_move (v := .int _ _) rfl) ?_
    refine RL_do rfl rfl (Do_gtr rfl rfl) ?_
    refine (RL_nil (thenQ_n (hK8 _ _ ?_)))
    first | refine WP_if rfl (fun c2 => ?_) (fun c2 => ?_) | refine WP_ifb rfl (fun c2 => ?_) (fun c2 => ?_)
    · skip
      refine WP_seq_k fun K9 hK9 => ?_
      refine WP_region ?_
      refine RL_do rfl rfl (Do_assign rfl) ?_
      refine (RL_nil (thenQ_n (hK9 _ _ ?_)))
      refine (WP_ret (blockQ_r (thenQ_r (thenQ_r (blockQ_r (thenQ_r (post1 (v1 := .bool _) rfl rfl ?_)))))))
      exact ⟨retbt ⟨k, by omega, by omega⟩, H.kept⟩
    · skip
      refine (WP_skip (blockQ_n (thenQ_n (hK6 _ _ ?_))))
      refine WP_region ?_
      refine RL_do rfl rfl (Do_add rfl rfl (wrap_i64 (by omega) (by omega))) ?_
      refine RL_do rfl rfl (Do_move (v := .int _ _) rfl) ?_
      refine (RL_nil (thenQ_n (And.intro ?_ ?_)))
      · repeat' (first | with_reducible exact Fr_refl | refine Fr_upd rfl ?_ | refine Fr_over rfl rfl ?_)
      · refine ⟨k + 1, (Sl_cons (by first | rfl | exact congrArg (Value.int _) (by omega)) Sl_nil), ?_, ?_⟩
        · exact ⟨H, by omega, upto_succ hi (by omega)⟩
        · simp; omega
  · skip
    refine (WP_exit (thenQ_x (thenQ_x (blockQ_eq (thenQ_n (hK2 _ _ ?_))))))
    refine WP_seq_k fun K10 hK10 => ?_
    refine WP_region ?_
    refine RL_do rfl rfl (Do_assign rfl) ?_
    refine (RL_nil (thenQ_n (hK10 _ _ ?_)))
    refine (WP_ret (post1 (v1 := .bool _) rfl rfl ?_))
    exact ⟨retbf (fun ⟨i, h1, h2⟩ => hi i (by omega) h2), H.kept⟩

/-- orangebox/orangeboxref1.Half -/
theorem Half_c (f : List Nat) (hl : f.length = 64) (hs : Small f) (x : Int) (j : Nat) (hx : x = j) (hj : j < 192) (w : World) :
    Calls Tryd.prog 107 #[.agg (wds f).toArray, .int .i64 x] w fun e w' => e = .returned (.int .i64 (nibN f j : Nat)) ∧ Below w.heap.size w w' := by
  have q1 := hs (j / 3)
  have q4 := nib_pow (wd f (j / 3)) (j % 3) (by omega)
  have q3 : (0 : Int) ≤ ((wd f (j / 3) / 2 ^ (8 - j % 3 * 4) : Nat) : Int) := Int.natCast_nonneg _
  have q2 := Nat.div_le_self (wd f (j / 3)) (2 ^ (8 - j % 3 * 4))
  refine calls_of_WP (args := [.agg (wds f).toArray, .int .i64 x]) 16 Tryd.func107 rfl rfl rfl ?_
  have H := Sep.start [] w
  refine WP_seq_k fun K1 hK1 => ?_
  refine WP_region ?_
  refine RL_ex rfl rfl (Ex_box rfl) ?_
  rintro _ w132 ⟨b29, rfl, hA⟩
  replace H := H.alloc hA
  refine RL_do rfl rfl (Do_assign rfl) ?_
  refine (RL_nil (thenQ_n (hK1 _ _ ?_)))
  refine WP_seq_k fun K2 hK2 => ?_
  refine WP_region ?_
  refine RL_do rfl rfl (Do_move (v := .int _ _) rfl) ?_
  refine RL_do rfl rfl (Do_quo rfl rfl (by omega) (by omega) (wrap_i64 (by omega) (by omega))) ?_
  refine RL_do rfl rfl (Do_idxa1 u25 sz23 rfl rfl (by omega) (by omega) (by omega : _ = j / 3) (by first | exact Nat.zero_add _ | rfl)) ?_
  refine RL_do rfl rfl (Do_load one23 rfl (Blk.cell (Sep.blk (i := 0) H rfl) (wds_get (by omega)))) ?_
  refine RL_do rfl rfl (Do_conv u23 u3 rfl (wrap_i64 (by omega) (by omega))) ?_
  refine RL_do rfl rfl (Do_move (v := .int _ _) rfl) ?_
  refine RL_do rfl rfl (Do_rem rfl rfl (by omega) (by omega)) ?_
  refine RL_do rfl rfl (Do_mul rfl rfl (wrap_i64 (by omega) (by omega))) ?_
  refine RL_do rfl rfl (Do_sub rfl rfl (wrap_i64 (by omega) (by omega))) ?_
  refine RL_do rfl rfl (Do_as (Do_shr rfl rfl (by omega) (by show _ ≤ (64 : Int); omega) rfl) (Go.OB.shr_vari (wd f (j / 3)) (8 - j % 3 * 4) rfl (by omega))) ?_
  refine RL_do rfl rfl (Do_and rfl rfl (mask_i64 4 (by decide) (rfl : _ = (16 : Int)) (by omega) (by omega))) ?_
  refine RL_do rfl rfl (Do_assign (v := .int _ _) rfl) ?_
  refine (RL_nil (thenQ_n (hK2 _ _ ?_)))
  refine (WP_ret (post1 (v1 := .int _ _) rfl rfl ?_))
  exact ⟨reti (by unfold nibN; rw [← q4]; omega), H.kept⟩

/-- orangebox/orangeboxref1.bytes -/
theorem bytesRef_c (f : List Nat) (hl : f.length = 64) (hs : Small f) (w : World) :
    Calls Tryd.prog 76 #[.agg (wds f).toArray] w fun e w' => ∃ b, e = .returned (.slice (some ⟨b, 0, none⟩) 96 96) ∧ Blk w' b (bys (bytesN f)) 5 ∧ w.heap.size ≤ b ∧ Below w.heap.size w w' := by
  refine calls_of_WP (args := [.agg (wds f).toArray]) 28 Tryd.func76 rfl rfl rfl ?_
  have H := Sep.start [] w
  refine WP_seq_k fun K1 hK1 => ?_
  refine WP_region ?_
  refine RL_ex rfl rfl (Ex_box rfl) ?_
  rintro _ w133 ⟨b30, rfl, hA⟩
  replace H := H.alloc hA
  refine RL_do rfl rfl (Do_assign rfl) ?_
  refine (RL_nil (thenQ_n (hK1 _ _ ?_)))
  refine WP_seq_k fun K2 hK2 => ?_
  refine WP_region ?_
  refine RL_ex rfl rfl (Ex_ms (n := 96) (cs := List.replicate 96 (.int .u8 0)) u22 el5 rfl rfl (by decide) (by decide) (by kernel_rfl)) ?_
  rintro _ w134 ⟨b31, rfl, hA⟩
  replace H := H.alloc hA
  replace H := H.conv (i := 1) rfl (cs' := bys (byTo f 0)) rfl
  refine RL_do rfl rfl (Do_assign (v := .slice _ _ _) rfl) ?_
  refine (RL_nil (thenQ_n (hK2 _ _ ?_)))
  refine WP_seq_k fun K3 hK3 => ?_
  refine WP_seq_k fun K4 hK4 => ?_
  refine WP_region ?_
  refine RL_do rfl rfl (Do_move (v := .slice _ _ _) rfl) ?_
  refine RL_do rfl rfl (Do_len u22 rfl) ?_
  refine RL_do rfl rfl (Do_move rfl) ?_
  refine (RL_nil (thenQ_n (hK4 _ _ ?_)))
  refine WP_block ?_
  refine WP_loopS [4, 8, 9, 10, 11, 12, 13, 14, 15, 16, 17, 18, 19, 20, 21, 22, 23, 24, 25, 26] (fun (g : Nat) => [(8, .int .i64 (g : Nat))]) (fun (g : Nat) wl => Sep [] w wl [.blk b30 (wds f) 25, .blk b31 (bys (byTo f g)) 5] ∧ g ≤ 96) (fun (g : Nat) => 96 - g) (0) (Sl_cons rfl Sl_nil) ⟨H, by decide⟩ ?_
  clear H
  rintro k ρ w135 ⟨H, hk⟩
  refine WP_seq_k fun K5 hK5 => ?_
  refine WP_region ?_
  refine RL_do rfl rfl (Do_lss rfl rfl) ?_
  refine (RL_nil (thenQ_n (hK5 _ _ ?_)))
  refine WP_seq_k fun K6 hK6 => ?_
  first | refine WP_if rfl (fun c1 => ?_) (fun c1 => ?_) | refine WP_ifb rfl (fun c1 => ?_) (fun c1 => ?_)
  · skip
    refine (WP_skip (thenQ_n (hK6 _ _ ?_)))
    refine WP_seq_k fun K7 hK7 => ?_
    refine WP_block ?_
    refine WP_seq_k fun K8 hK8 => ?_
    refine WP_region ?_
    refine RL_do rfl rfl (Do_move (v := .int _ _) rfl) ?_
    refine RL_do rfl rfl (Do_assign (v := .int _ _) rfl) ?_
    refine (RL_nil (thenQ_n (hK8 _ _ ?_)))
    refine WP_mix [.pure, .pure, .read, .pure, .pure, .read, .pure, .read, .pure, .pure, .pure, .read, .pure, .pure, .pure, .eff] mixed (by kernel_rfl) (by kernel_rfl) (by kernel_rfl) ?_
    refine XL_pure rfl rfl rfl (fun w' => Do_move (v := .slice _ _ _) rfl) ?_
    have n1 : nibN f (2 * k) < 16 := Nat.mod_lt _ (by decide)
    have n2 : nibN f (2 * k + 1) < 16 := Nat.mod_lt _ (by decide)
    refine XL_pure rfl rfl rfl (fun w' => Do_move (v := .int _ _) rfl) ?_
    refine XL_read rfl rfl rfl (fun w' hw' => Do_loads agg25 rfl sz25 (by simp [wds_length, bys_length, hl, byTo_len]) (Blk.cells (Sep.blk (i := 0) (Sep.sees H hw') rfl))) ?_
    refine XL_pure rfl rfl rfl (fun w' => Do_move (v := .int _ _) rfl) ?_
    refine XL_pure rfl rfl rfl (fun w' => Do_mul rfl rfl (wrap_i64 (by omega) (by omega))) ?_
    refine XL_call rfl rfl rfl (fun w' hw' => DoC_func en107 rfl) (fun w' hw' => Half_c f hl hs _ (2 * k) (by omega) (by omega) w') ?_
    refine XL_pure rfl rfl rfl (fun w' => Do_mul rfl rfl (wrap_i64 (by omega) (by omega))) ?_
    refine XL_read rfl rfl rfl (fun w' hw' => Do_loads agg25 rfl sz25 (by simp [wds_length, bys_length, hl, byTo_len]) (Blk.cells (Sep.blk (i := 0) (Sep.sees H hw') rfl))) ?_
    refine XL_pure rfl rfl rfl (fun w' => Do_move (v := .int _ _) rfl) ?_
    refine XL_pure rfl rfl rfl (fun w' => Do_mul rfl rfl (wrap_i64 (by omega) (by omega))) ?_
    refine XL_pure rfl rfl rfl (fun w' => Do_add rfl rfl (wrap_i64 (by omega) (by omega))) ?_
    refine XL_call rfl rfl rfl (fun w' hw' => DoC_func en107 rfl) (fun w' hw' => Half_c f hl hs _ (2 * k + 1) (by omega) (by omega) w') ?_
    refine XL_pure rfl rfl rfl (fun w' => Do_add rfl rfl (wrap_i64 (by omega) (by omega))) ?_
    have q1 := byteN_lt f k
    refine XL_pure rfl rfl rfl (fun w' => Do_conv u3 u5 rfl (c := ((byteN f k : Nat) : Int)) (by rw [IntKind.wrap_u8]; unfold byteN nibN at *; omega)) ?_
    refine XL_pure rfl rfl rfl (fun w' => Do_idx1 u22 sz5 rfl rfl (by omega) (by omega) (by omega : _ = k) (by first | exact Nat.zero_add _ | rfl)) ?_
    refine XL_exU rfl rfl (fun w' hw' => Ex_store1 sz5 rfl rfl rfl (Sep.blk (i := 1) (Sep.sees H hw') rfl) (by simp [bys_length, byTo_len]; omega)) ?_
    rintro w' w136 hw' hW
    replace H := (Sep.sees H hw').wr (i := 1) rfl hW
    replace H := H.conv (i := 1) rfl (bys_setI _ k (n := byteN f k) rfl)
    refine XL_nil fun w137 hS => ?_
    replace H := H.sees hS
    refine (blockQ_n (thenQ_n (hK7 _ _ ?_)))
    refine WP_region ?_
    refine RL_do rfl rfl (Do_add rfl rfl (wrap_i64 (by omega) (by omega))) ?_
    refine RL_do rfl rfl (Do_move (v := .int _ _) rfl) ?_
    refine (RL_nil (thenQ_n (And.intro ?_ ?_)))
    · repeat' (first | with_reducible exact Fr_refl | refine Fr_upd rfl ?_ | refine Fr_over rfl rfl ?_)
    · refine ⟨k + 1, (Sl_cons (by first | rfl | exact congrArg (Value.int _) (by omega)) Sl_nil), ?_, ?_⟩
      · exact ⟨H, by omega⟩
      · simp; omega
  · skip
    refine (WP_exit (thenQ_x (thenQ_x (blockQ_eq (thenQ_n (hK3 _ _ ?_))))))
    refine WP_seq_k fun K9 hK9 => ?_
    refine WP_region ?_
    (obtain rfl : k = 96 := by omega)
    replace H := H.conv (i := 1) rfl (congrArg bys (byTo_eq rfl))
    refine RL_do rfl rfl (Do_move (v := .slice _ _ _) rfl) ?_
    refine RL_do rfl rfl (Do_assign (v := .slice _ _ _) rfl) ?_
    refine (RL_nil (thenQ_n (hK9 _ _ ?_)))
    refine (WP_ret (post1 (v1 := .slice _ _ _) rfl rfl ?_))
    exact ⟨_, rfl, H.blk (i := 1) rfl, H.ge0 (i := 1) rfl, H.kept⟩
end Go.Proofs.YtafgmocdnjdmoaaDoor
namespace Go.Proofs.YtafgmocdnjdmoaaDoor
open Go.RowKit Go.OB Go.Fr1
theorem en73 : Enters Tryd.prog 73 := ⟨_, Tryd.func73, rfl, by kernel_rfl⟩
theorem en74 : Enters Tryd.prog 74 := ⟨_, Tryd.func74, rfl, by kernel_rfl⟩
theorem en75 : Enters Tryd.prog 75 := ⟨_, Tryd.func75, rfl, by kernel_rfl⟩
theorem en76 : Enters Tryd.prog 76 := ⟨_, Tryd.func76, rfl, by kernel_rfl⟩
/-- orangebox/orangeboxref1.with -/
theorem with_c (v : Value) (xs : List Nat) (m : Nat) (hm : xs.length = m) (hx : Byte xs) (hM : m ≤ 140737488351232) (ax : Int) (a : Nat) (hax : ax = a) (v2 : Value) (n : Nat) (ys : List Nat) (hn : ys.length = n) (h0 : 0 < n) (hfit : a + n ≤ m) (w : World) (hr : SlR w v 1 m (bys xs)) (hr2 : SlR w v2 1 n (bys ys)) :
    Calls Tryd.prog 75 #[v, .int .i64 ax, v2] w fun e w' => ∃ v', e = .returned v' ∧ w'.ownsRow w.heap.size 5 1 v' m (bys (lay xs a ys)) ∧ Below w.heap.size w w' := by
  refine calls_of_WP (args := [v, .int .i64 ax, v2]) 17 Tryd.func75 rfl rfl rfl ?_
  obtain ⟨va, vc, rfl⟩ := hr.shape
  obtain ⟨va2, vc2, rfl⟩ := hr2.shape
  have H := Sep.start [] w
  refine WP_seq_k fun K1 hK1 => ?_
  refine WP_region ?_
  refine RL_do rfl rfl (Do_assign rfl) ?_
  refine (RL_nil (thenQ_n (hK1 _ _ ?_)))
  refine WP_seq_k fun K2 hK2 => ?_
  refine WP_region ?_
  refine RL_ex rfl rfl (Ex_bs0 u22 el5) ?_
  rintro _ w138 ⟨b32, rfl, hA⟩
  replace H := H.alloc hA
  replace H := H.asSl (i := 0) rfl 0 1 rfl (by decide)
  refine RL_do rfl rfl (Do_move (v := .slice _ _ _) rfl) ?_
  refine RL_ex rfl rfl (Ex_append u22 el5 rfl rfl (Sep.sl (i := 0) H rfl) (hr.only (Sep.only H) (by simp)) one_bys (by rw [maxLen_eq]; omega) (by omega)) ?_
  rintro va8 w139 hA
  replace H := H.app (i := 0) rfl hA
  refine RL_do rfl rfl (Do_assign (v := va8) rfl) ?_
  refine (RL_nil (thenQ_n (hK2 _ _ ?_)))
  refine WP_seq_k fun K3 hK3 => ?_
  refine WP_region ?_
  obtain ⟨g, cap, R0, rfl, -, hc1, hc2⟩ := owns_some (Sep.sl (i := 0) H rfl) (by omega)
  rw [Nat.zero_add] at hc1
  refine RL_do rfl rfl (Do_move (v := .slice _ _ _) rfl) ?_
  refine RL_do rfl rfl (Do_move (v := .int _ _) rfl) ?_
  refine RL_do rfl rfl (Do_slice_lo u22 sz5 (i := a) (m := a) rfl rfl hax (by omega) (by omega) (by omega)) ?_
  refine RL_do rfl rfl (Do_move (v := .slice _ _ _) rfl) ?_
  refine RL_ex rfl rfl (Ex_copy u22 sz5 rfl rfl (Sep.sl (i := 0) H rfl) (hr2.only (Sep.only H) (by simp)) (by omega) (by omega) one_bys) ?_
  rintro _ w140 ⟨rfl, hA⟩
  replace H := H.app (i := 0) rfl hA
  refine (RL_nil (thenQ_n (hK3 _ _ ?_)))
  refine WP_seq_k fun K4 hK4 => ?_
  refine WP_region ?_
  refine RL_do rfl rfl (Do_move (v := .slice _ _ _) rfl) ?_
  refine RL_do rfl rfl (Do_assign (v := .slice _ _ _) rfl) ?_
  refine (RL_nil (thenQ_n (hK4 _ _ ?_)))
  refine (WP_ret (post1 (v1 := .slice _ _ _) rfl rfl ?_))
  refine ⟨_, rfl, ?_, H.kept⟩
  have h := H.give (i := 0) rfl
  rw [Nat.zero_add] at h
  have e : splice ([] ++ bys xs) a (bys ys) = bys (lay xs a ys) := by simp [splice, bys, lay]
  rw [e] at h
  rw [Nat.zero_add]
  exact h

/-- orangebox/orangeboxref1.Put -/
theorem PutRef_c (v : Value) (xs : List Nat) (m : Nat) (hm : xs.length = m) (hx : Byte xs) (hM : m ≤ 140737488351232) (a : Int) (f : List Nat) (hl : f.length = 64) (hs : Small f) (w : World) (hr : SlR w v 1 m (bys xs)) :
    Calls Tryd.prog 17 #[v, .int .i64 a, .agg (wds f).toArray] w fun e w' => ∃ v', e = .returned (.tuple #[v', .int .i64 (putE m a f)]) ∧ SlR w' v' 1 m (bys (putX xs m a f)) ∧ (∀ b, sblk v' = some b → sblk v = some b ∨ w.heap.size ≤ b) ∧ Below w.heap.size w w' := by
  refine calls_of_WP (args := [v, .int .i64 a, .agg (wds f).toArray]) 24 Tryd.func17 rfl rfl rfl ?_
  obtain ⟨va, vc, rfl⟩ := hr.shape
  have H := Sep.start [] w
  refine WP_seq_k fun K1 hK1 => ?_
  refine WP_region ?_
  refine RL_ex rfl rfl (Ex_box rfl) ?_
  rintro _ w141 ⟨b33, rfl, hA⟩
  replace H := H.alloc hA
  refine RL_do rfl rfl (Do_assign rfl) ?_
  refine RL_do rfl rfl (Do_assign rfl) ?_
  refine (RL_nil (thenQ_n (hK1 _ _ ?_)))
  refine WP_seq_k fun K2 hK2 => ?_
  refine WP_seq_k fun K3 hK3 => ?_
  refine WP_region ?_
  refine RL_do rfl rfl (Do_move (v := .slice _ _ _) rfl) ?_
  refine RL_do rfl rfl (Do_move (v := .int _ _) rfl) ?_
  refine RL_call rfl rfl (DoC_func en73 rfl) (Place_c va m vc a 96 (by omega) (by omega) (by omega) w141) ?_
  rintro _ w142 ⟨rfl, hB⟩
  replace H := H.below hB
  refine ⟨_, rfl, ?_⟩
  refine RL_do rfl rfl (Do_assign (v := .int _ _) rfl) ?_
  refine (RL_nil (thenQ_n (hK3 _ _ ?_)))
  refine WP_seq_k fun K4 hK4 => ?_
  refine WP_region ?_
  refine RL_do rfl rfl (Do_move (v := .int _ _) rfl) ?_
  refine RL_do rfl rfl (Do_neq rfl rfl) ?_
  refine (RL_nil (thenQ_n (hK4 _ _ ?_)))
  first | refine WP_if rfl (fun c1 => ?_) (fun c1 => ?_) | refine WP_ifb rfl (fun c1 => ?_) (fun c1 => ?_)
  · skip
    refine WP_seq_k fun K5 hK5 => ?_
    refine WP_region ?_
    refine RL_do rfl rfl (Do_move (v := .slice _ _ _) rfl) ?_
    refine RL_do rfl rfl (Do_move (v := .int _ _) rfl) ?_
    refine RL_do rfl rfl (Do_assign (v := .slice _ _ _) rfl) ?_
    refine RL_do rfl rfl (Do_assign (v := .int _ _) rfl) ?_
    refine (RL_nil (thenQ_n (hK5 _ _ ?_)))
    refine (WP_ret (thenQ_r (post2 (v1 := .slice _ _ _) (v2 := .int _ _) rfl rfl rfl ?_)))
    have q := put_1 (f := f) [] 0 (show placeN m a 96 ≠ 0 by assumption)
    exact ⟨_, by rw [q.1], by rw [putX_1 (fun h => by omega)]; exact (hr.only (Sep.only H) (by simp)), fun b h => .inl h, H.kept⟩
  · skip
    refine (WP_skip (thenQ_n (hK2 _ _ ?_)))
    refine WP_seq_k fun K6 hK6 => ?_
    refine WP_seq_k fun K7 hK7 => ?_
    refine WP_region ?_
    refine RL_do rfl rfl (Do_loads agg25 rfl sz25 (by simp [wds_length, bys_length, hl]) (Blk.cells (Sep.blk (i := 0) H rfl))) ?_
    refine RL_call rfl rfl (DoC_func en74 rfl) (WideRef_c f hl hs w142) ?_
    rintro _ w143 ⟨rfl, hB⟩
    replace H := H.below hB
    refine ⟨_, rfl, ?_⟩
    refine (RL_nil (thenQ_n (hK7 _ _ ?_)))
    first | refine WP_if rfl (fun c2 => ?_) (fun c2 => ?_) | refine WP_ifb rfl (fun c2 => ?_) (fun c2 => ?_)
    · skip
      refine WP_seq_k fun K8 hK8 => ?_
      refine WP_region ?_
      refine RL_do rfl rfl (Do_move (v := .slice _ _ _) rfl) ?_
      refine RL_do rfl rfl (Do_assign (v := .slice _ _ _) rfl) ?_
      refine RL_do rfl rfl (Do_assign rfl) ?_
      refine (RL_nil (thenQ_n (hK8 _ _ ?_)))
      refine (WP_ret (thenQ_r (post2 (v1 := .slice _ _ _) (v2 := .int _ _) rfl rfl rfl ?_)))
      have q := put_2 (f := f) [] 0 (show ¬ placeN m a 96 ≠ 0 by assumption) (by assumption)
      exact ⟨_, by rw [q.1], by rw [putX_1 (fun h => h.2 (by assumption))]; exact (hr.only (Sep.only H) (by simp)), fun b h => .inl h, H.kept⟩
    · skip
      refine (WP_skip (thenQ_n (hK6 _ _ ?_)))
      refine WP_seq_k fun K9 hK9 => ?_
      refine WP_region ?_
      have q0 := placeN_0 (show placeN m a 96 = 0 by omega)
      refine RL_do rfl rfl (Do_move (v := .slice _ _ _) rfl) ?_
      refine RL_do rfl rfl (Do_move (v := .int _ _) rfl) ?_
      refine RL_do rfl rfl (Do_loads agg25 rfl sz25 (by simp [wds_length, bys_length, hl]) (Blk.cells (Sep.blk (i := 0) H rfl))) ?_
      refine RL_call rfl rfl (DoC_func en76 rfl) (bytesRef_c f hl hs w143) ?_
      rintro _ w144 ⟨bb, rfl, hb, hge, hB⟩
      replace H := H.gotb hB hb hge
      refine ⟨_, rfl, ?_⟩
      refine RL_call rfl rfl (DoC_func en75 rfl) (with_c _ xs m hm hx hM _ a.toNat (by omega) _ 96 (bytesN f) (bytesN_len f) (by omega) (by omega) w144 (hr.only (Sep.only H) (by simp)) (Blk.slr (Sep.blk (i := 1) H rfl) 96 1 (by rw [bys_length, bytesN_len]) (by decide))) ?_
      rintro _ w145 ⟨vw, rfl, hv, hB⟩
      replace H := H.got hB hv
      refine ⟨_, rfl, ?_⟩
      refine RL_do rfl rfl (Do_assign (v := vw) rfl) ?_
      refine RL_do rfl rfl (Do_assign rfl) ?_
      refine (RL_nil (thenQ_n (hK9 _ _ ?_)))
      refine (WP_ret (post2 (v1 := vw) (v2 := .int _ _) rfl rfl rfl ?_))
      have q := put_3 (f := f) [] 0 (show ¬ placeN m a 96 ≠ 0 by assumption) (by assumption)
      exact ⟨vw, by rw [q.1], by rw [putX_2 (by omega) (by assumption)]; exact H.slr (i := 2) rfl, fun b h => .inr (owns_ge (H.give (i := 2) rfl) b (ob_mem.2 h)).1, H.kept⟩
end Go.Proofs.YtafgmocdnjdmoaaDoor
