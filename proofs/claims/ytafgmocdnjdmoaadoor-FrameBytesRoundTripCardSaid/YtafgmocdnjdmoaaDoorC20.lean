/- What the walks and the laws stand on; no condition but those that stand in the statements. -/
import Derived.Test.YtafgmocdnjdmoaaDoorRows
import Derived.Test.YtafgmocdnjdmoaaDoorCB
import Derived.Test.YtafgmocdnjdmoaaDoorCrc
import Derived.Test.YtafgmocdnjdmoaaDoorSeal
namespace Go.Proofs.YtafgmocdnjdmoaaDoor
open Go.RowKit Go.OB Go.Fr1
/-- orangebox/orangeboxref1.numberOf -/
theorem numberRef_c (f : List Nat) (hl : f.length = 64) (hs : Small f) (w : World) :
    Calls Tryd.prog 101 #[.agg (wds f).toArray] w fun e w' => e = .returned (.int .i64 (numN f : Nat)) ∧ Below w.heap.size w w' := by
  have q1 := hs 1
  have q2 := hs 2
  refine calls_of_WP (args := [.agg (wds f).toArray]) 13 Tryd.func101 rfl rfl rfl ?_
  have H := Sep.start [] w
  refine WP_seq_k fun K1 hK1 => ?_
  refine WP_region ?_
  refine RL_ex rfl rfl (Ex_box rfl) ?_
  rintro _ w212 ⟨b40, rfl, hA⟩
  replace H := H.alloc hA
  refine RL_do rfl rfl (Do_assign rfl) ?_
  refine (RL_nil (thenQ_n (hK1 _ _ ?_)))
  refine WP_seq_k fun K2 hK2 => ?_
  refine WP_region ?_
  refine RL_do rfl rfl (Do_idxa1 u25 sz23 rfl rfl (by omega) (by omega) (rfl : _ = 1) (by first | exact Nat.zero_add _ | rfl)) ?_
  refine RL_do rfl rfl (Do_load one23 rfl (Blk.cell (Sep.blk (i := 0) H rfl) (wds_get (by omega)))) ?_
  refine RL_do rfl rfl (Do_conv u23 u3 rfl (wrap_i64 (by omega) (by omega))) ?_
  refine RL_do rfl rfl (Do_rem rfl rfl (by omega) (by omega)) ?_
  refine RL_do rfl rfl (Do_idxa1 u25 sz23 rfl rfl (by omega) (by omega) (rfl : _ = 2) (by first | exact Nat.zero_add _ | rfl)) ?_
  refine RL_do rfl rfl (Do_load one23 rfl (Blk.cell (Sep.blk (i := 0) H rfl) (wds_get (by omega)))) ?_
  refine RL_do rfl rfl (Do_conv u23 u3 rfl (wrap_i64 (by omega) (by omega))) ?_
  refine RL_do rfl rfl (Do_rem rfl rfl (by omega) (by omega)) ?_
  refine RL_do rfl rfl (Do_mul rfl rfl (wrap_i64 (by omega) (by omega))) ?_
  refine RL_do rfl rfl (Do_add rfl rfl (wrap_i64 (by omega) (by omega))) ?_
  refine RL_do rfl rfl (Do_assign (v := .int _ _) rfl) ?_
  refine (RL_nil (thenQ_n (hK2 _ _ ?_)))
  refine (WP_ret (post1 (v1 := .int _ _) rfl rfl ?_))
  exact ⟨reti (by unfold numN; omega), H.kept⟩

/-- orangebox/orangeboxref1.sum -/
theorem sumRef_c (f : List Nat) (hl : f.length = 64) (hs : Small f) (w : World) :
    Calls Tryd.prog 102 #[.agg (wds f).toArray] w fun e w' => e = .returned (.int .i64 (sumN f : Nat)) ∧ Below w.heap.size w w' := by
  refine calls_of_WP (args := [.agg (wds f).toArray]) 17 Tryd.func102 rfl rfl rfl ?_
  have H := Sep.start [] w
  refine WP_seq_k fun K1 hK1 => ?_
  refine WP_region ?_
  refine RL_ex rfl rfl (Ex_box rfl) ?_
  rintro _ w213 ⟨b41, rfl, hA⟩
  replace H := H.alloc hA
  refine RL_do rfl rfl (Do_assign rfl) ?_
  refine (RL_nil (thenQ_n (hK1 _ _ ?_)))
  refine WP_seq_k fun K2 hK2 => ?_
  refine WP_region ?_
  refine RL_do rfl rfl (Do_assign rfl) ?_
  refine (RL_nil (thenQ_n (hK2 _ _ ?_)))
  refine WP_seq_k fun K3 hK3 => ?_
  refine WP_seq_k fun K4 hK4 => ?_
  refine WP_region ?_
  refine RL_do rfl rfl (Do_assign rfl) ?_
  refine (RL_nil (thenQ_n (hK4 _ _ ?_)))
  refine WP_block ?_
  refine WP_loopS [3, 4, 5, 6, 7, 8, 9, 10, 11, 12, 13, 14, 15] (fun (g : Nat) => [(3, .int .i64 (xorTo f g : Nat)), (4, .int .i64 ((g : Nat) + 1))]) (fun (g : Nat) wl => Sep [] w wl [.blk b41 (wds f) 25] ∧ g ≤ 60) (fun (g : Nat) => 60 - g) (0) (Sl_cons rfl (Sl_cons rfl Sl_nil)) ⟨H, by decide⟩ ?_
  clear H
  rintro k ρ w214 ⟨H, hk⟩
  refine WP_seq_k fun K5 hK5 => ?_
  refine WP_seq_k fun K6 hK6 => ?_
  refine WP_region ?_
  refine RL_do rfl rfl (Do_move (v := .int _ _) rfl) ?_
  refine RL_do rfl rfl (Do_leq rfl rfl) ?_
  refine (RL_nil (thenQ_n (hK6 _ _ ?_)))
  first | refine WP_if rfl (fun c1 => ?_) (fun c1 => ?_) | refine WP_ifb rfl (fun c1 => ?_) (fun c1 => ?_)
  · skip
    refine (WP_skip (thenQ_n (hK5 _ _ ?_)))
    refine WP_seq_k fun K7 hK7 => ?_
    refine WP_block ?_
    refine WP_region ?_
    refine RL_do rfl rfl (Do_move (v := .int _ _) rfl) ?_
    have q1 := hs (k + 1)
    have q2 := xorTo_lt f k
    refine RL_do rfl rfl (Do_move (v := .int _ _) rfl) ?_
    refine RL_do rfl rfl (Do_idxa1 u25 sz23 rfl rfl (by omega) (by omega) (by omega : _ = k + 1) (by first | exact Nat.zero_add _ | rfl)) ?_
    refine RL_do rfl rfl (Do_load one23 rfl (Blk.cell (Sep.blk (i := 0) H rfl) (wds_get (by omega)))) ?_
    refine RL_do rfl rfl (Do_conv u23 u3 rfl (wrap_i64 (by omega) (by omega))) ?_
    refine RL_do rfl rfl (Do_rem rfl rfl (by omega) (by omega)) ?_
    refine RL_do rfl rfl (Do_xor rfl rfl (xor_i64' (xorTo f k) (wd f (k + 1) % 2048) rfl (by omega) (by omega) (by omega))) ?_
    refine RL_do rfl rfl (Do_assign (v := .int _ _) rfl) ?_
    refine (RL_nil (blockQ_n (thenQ_n (hK7 _ _ ?_))))
    refine WP_region ?_
    refine RL_do rfl rfl (Do_move (v := .int _ _) rfl) ?_
    refine RL_do rfl rfl (Do_add rfl rfl (wrap_i64 (by omega) (by omega))) ?_
    refine RL_do rfl rfl (Do_assign (v := .int _ _) rfl) ?_
    refine (RL_nil (thenQ_n (And.intro ?_ ?_)))
    · repeat' (first | with_reducible exact Fr_refl | refine Fr_upd rfl ?_ | refine Fr_over rfl rfl ?_)
    · refine ⟨k + 1, (Sl_cons (by first | rfl | exact congrArg (Value.int _) (by omega)) (Sl_cons (by first | rfl | exact congrArg (Value.int _) (by omega)) Sl_nil)), ?_, ?_⟩
      · exact ⟨H, by omega⟩
      · simp; omega
  · skip
    refine (WP_exit (thenQ_x (thenQ_x (blockQ_eq (thenQ_n (hK3 _ _ ?_))))))
    refine WP_seq_k fun K8 hK8 => ?_
    refine WP_region ?_
    refine RL_do rfl rfl (Do_move (v := .int _ _) rfl) ?_
    refine RL_do rfl rfl (Do_assign (v := .int _ _) rfl) ?_
    refine (RL_nil (thenQ_n (hK8 _ _ ?_)))
    refine (WP_ret (post1 (v1 := .int _ _) rfl rfl ?_))
    exact ⟨reti (by (have q : k = 60 := by omega); subst q; rfl), H.kept⟩

/-- orangebox/orangeboxref1.check -/
theorem checkRef_c (f : List Nat) (hl : f.length = 64) (hs : Small f) (w : World) :
    Calls Tryd.prog 103 #[.agg (wds f).toArray] w fun e w' => e = .returned (.int .i64 (checkN f : Nat)) ∧ Below w.heap.size w w' := by
  refine calls_of_WP (args := [.agg (wds f).toArray]) 31 Tryd.func103 rfl rfl rfl ?_
  have H := Sep.start [] w
  refine WP_seq_k fun K1 hK1 => ?_
  refine WP_region ?_
  refine RL_ex rfl rfl (Ex_box rfl) ?_
  rintro _ w215 ⟨b42, rfl, hA⟩
  replace H := H.alloc hA
  refine RL_do rfl rfl (Do_assign rfl) ?_
  refine (RL_nil (thenQ_n (hK1 _ _ ?_)))
  refine WP_seq_k fun K2 hK2 => ?_
  refine WP_region ?_
  refine RL_do rfl rfl (Do_assign rfl) ?_
  refine (RL_nil (thenQ_n (hK2 _ _ ?_)))
  refine WP_seq_k fun K3 hK3 => ?_
  refine WP_seq_k fun K4 hK4 => ?_
  refine WP_region ?_
  refine RL_do rfl rfl (Do_assign rfl) ?_
  refine (RL_nil (thenQ_n (hK4 _ _ ?_)))
  refine WP_block ?_
  refine WP_loopS [3, 4, 5, 6, 7, 8, 9, 10, 11, 12, 13, 14, 15, 16, 17, 18, 19, 20, 21, 22, 23, 24, 25, 26, 27, 28, 29] (fun (g : Nat) => [(3, .int .i64 (refTo f g : Nat)), (4, .int .i64 (g : Nat))]) (fun (g : Nat) wl => Sep [] w wl [.blk b42 (wds f) 25] ∧ g ≤ 766) (fun (g : Nat) => 766 - g) (0) (Sl_cons rfl (Sl_cons rfl Sl_nil)) ⟨H, by decide⟩ ?_
  clear H
  rintro k ρ w216 ⟨H, hk⟩
  refine WP_seq_k fun K5 hK5 => ?_
  refine WP_seq_k fun K6 hK6 => ?_
  refine WP_region ?_
  refine RL_do rfl rfl (Do_move (v := .int _ _) rfl) ?_
  refine RL_do rfl rfl (Do_lss rfl rfl) ?_
  refine (RL_nil (thenQ_n (hK6 _ _ ?_)))
  first | refine WP_if rfl (fun c1 => ?_) (fun c1 => ?_) | refine WP_ifb rfl (fun c1 => ?_) (fun c1 => ?_)
  · skip
    refine (WP_skip (thenQ_n (hK5 _ _ ?_)))
    refine WP_seq_k fun K7 hK7 => ?_
    refine WP_block ?_
    refine WP_seq_k fun K8 hK8 => ?_
    refine WP_region ?_
    refine RL_do rfl rfl (Do_assign rfl) ?_
    refine (RL_nil (thenQ_n (hK8 _ _ ?_)))
    refine WP_seqS [5, 10, 11, 12, 13, 14, 15, 16, 17, 18, 19, 20, 21] (fun (g : Nat) => [(5, .int .i64 (g : Nat))]) (fun (g : Nat) wl => Sep [] w wl [.blk b42 (wds f) 25] ∧ g = bitN f k) ?_ ?_
    · skip
      refine WP_seq_k fun K9 hK9 => ?_
      refine WP_region ?_
      refine RL_do rfl rfl (Do_move (v := .int _ _) rfl) ?_
      refine RL_do rfl rfl (Do_lss rfl rfl) ?_
      refine (RL_nil (thenQ_n (hK9 _ _ ?_)))
      first | refine WP_if rfl (fun c2 => ?_) (fun c2 => ?_) | refine WP_ifb rfl (fun c2 => ?_) (fun c2 => ?_)
      · skip
        refine WP_region ?_
        have q1 := hs (k / 12)
        have q2 := Nat.div_le_self (wd f (k / 12)) (2 ^ (11 - k % 12))
        have q3 : (0 : Int) ≤ ((wd f (k / 12) / 2 ^ (11 - k % 12) : Nat) : Int) := Int.natCast_nonneg _
        refine RL_do rfl rfl (Do_move (v := .int _ _) rfl) ?_
        refine RL_do rfl rfl (Do_quo rfl rfl (by omega) (by omega) (wrap_i64 (by omega) (by omega))) ?_
        refine RL_do rfl rfl (Do_idxa1 u25 sz23 rfl rfl (by omega) (by omega) (by omega : _ = k / 12) (by first | exact Nat.zero_add _ | rfl)) ?_
        refine RL_do rfl rfl (Do_load one23 rfl (Blk.cell (Sep.blk (i := 0) H rfl) (wds_get (by omega)))) ?_
        refine RL_do rfl rfl (Do_conv u23 u3 rfl (wrap_i64 (by omega) (by omega))) ?_
        refine RL_do rfl rfl (Do_move (v := .int _ _) rfl) ?_
        refine RL_do rfl rfl (Do_rem rfl rfl (by omega) (by omega)) ?_
        refine RL_do rfl rfl (Do_sub rfl rfl (wrap_i64 (by omega) (by omega))) ?_
        refine RL_do rfl rfl (Do_as (Do_shr rfl rfl (by omega) (by show _ ≤ (64 : Int); omega) rfl) (Go.OB.shr_vari (wd f (k / 12)) (11 - k % 12) rfl (by omega))) ?_
        refine RL_do rfl rfl (Do_and rfl rfl (mask_i64 1 (by decide) (rfl : _ = (2 : Int)) (by omega) (by omega))) ?_
        refine RL_do rfl rfl (Do_assign (v := .int _ _) rfl) ?_
        refine (RL_nil (thenQ_n (And.intro ?_ ?_)))
        · repeat' (first | with_reducible exact Fr_refl | refine Fr_upd rfl ?_ | refine Fr_over rfl rfl ?_)
        · exact ⟨wd f (k / 12) / 2 ^ (11 - k % 12) % 2, (Sl_cons (vint (by omega)) Sl_nil), ⟨H, by rw [bitN, if_pos (by omega)]⟩⟩
      · skip
        refine (WP_skip (thenQ_n (And.intro ?_ ?_)))
        · repeat' (first | with_reducible exact Fr_refl | refine Fr_upd rfl ?_ | refine Fr_over rfl rfl ?_)
        · exact ⟨0, (Sl_cons rfl Sl_nil), ⟨H, by rw [bitN, if_neg (by omega)]⟩⟩
    · clear H
      rintro n ρ w217 ⟨H, rfl⟩
      refine WP_seq_k fun K10 hK10 => ?_
      refine WP_region ?_
      have n1 := bitN_lt f k
      have n2 := refTo_lt f k
      refine RL_do rfl rfl (Do_move (v := .int _ _) rfl) ?_
      refine RL_do rfl rfl (Do_mul rfl rfl (wrap_i64 (by omega) (by omega))) ?_
      refine RL_do rfl rfl (Do_move (v := .int _ _) rfl) ?_
      refine RL_do rfl rfl (Do_add rfl rfl (wrap_i64 (by omega) (by omega))) ?_
      refine RL_do rfl rfl (Do_assign (v := .int _ _) rfl) ?_
      refine (RL_nil (thenQ_n (hK10 _ _ ?_)))
      refine WP_seq_k fun K11 hK11 => ?_
      refine WP_region ?_
      refine RL_do rfl rfl (Do_move (v := .int _ _) rfl) ?_
      refine RL_do rfl rfl (Do_geq rfl rfl) ?_
      refine (RL_nil (thenQ_n (hK11 _ _ ?_)))
      first | refine WP_if rfl (fun c3 => ?_) (fun c3 => ?_) | refine WP_ifb rfl (fun c3 => ?_) (fun c3 => ?_)
      · skip
        refine WP_region ?_
        refine RL_do rfl rfl (Do_move (v := .int _ _) rfl) ?_
        refine RL_do rfl rfl (Do_xor rfl rfl (xor_i64' (refTo f k * 2 + bitN f k) 6291471 (by omega) rfl (by omega) (by omega))) ?_
        refine RL_do rfl rfl (Do_assign (v := .int _ _) rfl) ?_
        refine (RL_nil (blockQ_n (thenQ_n (hK7 _ _ ?_))))
        refine WP_region ?_
        refine RL_do rfl rfl (Do_move (v := .int _ _) rfl) ?_
        refine RL_do rfl rfl (Do_add rfl rfl (wrap_i64 (by omega) (by omega))) ?_
        refine RL_do rfl rfl (Do_assign (v := .int _ _) rfl) ?_
        refine (RL_nil (thenQ_n (And.intro ?_ ?_)))
        · repeat' (first | with_reducible exact Fr_refl | refine Fr_upd rfl ?_ | refine Fr_over rfl rfl ?_)
        · refine ⟨k + 1, (Sl_cons (vint (by show _ = ((refStep (refTo f k) (bitN f k) : Nat) : Int); rw [refStep, if_pos (by omega)])) (Sl_cons (vint (by omega)) Sl_nil)), ?_, ?_⟩
          · exact ⟨H, by omega⟩
          · simp; omega
      · skip
        refine (WP_skip (blockQ_n (thenQ_n (hK7 _ _ ?_))))
        refine WP_region ?_
        refine RL_do rfl rfl (Do_move (v := .int _ _) rfl) ?_
        refine RL_do rfl rfl (Do_add rfl rfl (wrap_i64 (by omega) (by omega))) ?_
        refine RL_do rfl rfl (Do_assign (v := .int _ _) rfl) ?_
        refine (RL_nil (thenQ_n (And.intro ?_ ?_)))
        · repeat' (first | with_reducible exact Fr_refl | refine Fr_upd rfl ?_ | refine Fr_over rfl rfl ?_)
        · refine ⟨k + 1, (Sl_cons (vint (by show _ = ((refStep (refTo f k) (bitN f k) : Nat) : Int); rw [refStep, if_neg (by omega)]; omega)) (Sl_cons (vint (by omega)) Sl_nil)), ?_, ?_⟩
          · exact ⟨H, by omega⟩
          · simp; omega
  · skip
    refine (WP_exit (thenQ_x (thenQ_x (blockQ_eq (thenQ_n (hK3 _ _ ?_))))))
    refine WP_seq_k fun K12 hK12 => ?_
    refine WP_region ?_
    refine RL_do rfl rfl (Do_move (v := .int _ _) rfl) ?_
    refine RL_do rfl rfl (Do_assign (v := .int _ _) rfl) ?_
    refine (RL_nil (thenQ_n (hK12 _ _ ?_)))
    refine (WP_ret (post1 (v1 := .int _ _) rfl rfl ?_))
    exact ⟨by rw [ref_check (f := f) (show k = 766 by omega)], H.kept⟩

/-- orangebox/orangeboxref1.Right -/
theorem Right_c (x : Int) (n : Nat) (hx : x = n) (hn : n < 65536) (w : World) :
    Calls Tryd.prog 100 #[.int .u16 x] w fun e w' => e = .returned (.bool (decide (goodW n))) ∧ Below w.heap.size w w' := by
  refine calls_of_WP (args := [.int .u16 x]) 10 Tryd.func100 rfl rfl rfl ?_
  have H := Sep.start [] w
  refine WP_seq_k fun K1 hK1 => ?_
  refine WP_region ?_
  refine RL_do rfl rfl (Do_assign rfl) ?_
  refine (RL_nil (thenQ_n (hK1 _ _ ?_)))
  refine WP_seq_k fun K2 hK2 => ?_
  refine WP_region ?_
  refine RL_do rfl rfl (Do_move (v := .int _ _) rfl) ?_
  refine RL_do rfl rfl (Do_leq rfl rfl) ?_
  first | refine RL_split rfl rfl rfl (fun c1 => ?_) (fun c1 => ?_) | refine RL_splitb rfl rfl rfl (fun c1 => ?_) (fun c1 => ?_)
  · skip
    refine RL_do rfl rfl (Do_move (v := .int _ _) rfl) ?_
    refine RL_do rfl rfl (Do_conv u23 u3 rfl (wrap_i64 (by omega) (by omega))) ?_
    refine RL_call rfl rfl (DoC_func en87 rfl) (oddR_c _ n (by omega) (by omega) w) ?_
    rintro _ w218 ⟨rfl, hB⟩
    replace H := H.below hB
    refine ⟨_, rfl, ?_⟩
    refine RL_do rfl rfl (Do_pick_t (v := .bool _) rfl rfl) ?_
    refine RL_do rfl rfl (Do_assign (v := .bool _) rfl) ?_
    refine (RL_nil (thenQ_n (hK2 _ _ ?_)))
    refine (WP_ret (post1 (v1 := .bool _) rfl rfl ?_))
    exact ⟨retb ⟨fun h => ⟨by omega, h⟩, fun h => h.2⟩, H.kept⟩
  · skip
    refine RL_off rfl rfl ?_
    refine RL_off rfl rfl ?_
    refine RL_off rfl rfl ?_
    refine RL_do rfl rfl (Do_pick_f (v := .bool _) rfl rfl) ?_
    refine RL_do rfl rfl (Do_assign (v := .bool _) rfl) ?_
    refine (RL_nil (thenQ_n (hK2 _ _ ?_)))
    refine (WP_ret (post1 (v1 := .bool _) rfl rfl ?_))
    exact ⟨retbf (fun h => by have := h.1; omega), H.kept⟩
end Go.Proofs.YtafgmocdnjdmoaaDoor
