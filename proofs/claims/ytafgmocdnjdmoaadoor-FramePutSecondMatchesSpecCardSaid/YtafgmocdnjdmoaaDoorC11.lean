/- What the walks and the laws stand on; no condition but those that stand in the statements. -/
import Derived.Test.YtafgmocdnjdmoaaDoorRows
import Derived.Test.YtafgmocdnjdmoaaDoorC10
namespace Go.Proofs.YtafgmocdnjdmoaaDoor
open Go.RowKit Go.OB Go.Fr1
theorem en107 : Enters Tryd.prog 107 := ⟨_, Tryd.func107, rfl, by kernel_rfl⟩
/-- orangebox/orangeboxref1.Place -/
theorem Place_c (va : Option Addr) (m vc : Nat) (a n : Int) (hm : m ≤ 9223372036854775807) (hn : 0 ≤ n) (hn2 : n ≤ 1000) (w : World) :
    Calls Tryd.prog 73 #[.slice va m vc, .int .i64 a, .int .i64 n] w fun e w' => e = .returned (.int .i64 (placeN m a n)) ∧ Below w.heap.size w w' := by
  refine calls_of_WP (args := [.slice va m vc, .int .i64 a, .int .i64 n]) 21 Tryd.func73 rfl rfl rfl ?_
  have H := Sep.start [] w
  refine WP_seq_k fun K1 hK1 => ?_
  refine WP_region ?_
  refine RL_do rfl rfl (Do_assign rfl) ?_
  refine (RL_nil (thenQ_n (hK1 _ _ ?_)))
  refine WP_seq_k fun K2 hK2 => ?_
  refine WP_seq_k fun K3 hK3 => ?_
  refine WP_region ?_
  refine RL_do rfl rfl (Do_move (v := .int _ _) rfl) ?_
  refine RL_do rfl rfl (Do_lss rfl rfl) ?_
  refine (RL_nil (thenQ_n (hK3 _ _ ?_)))
  first | refine WP_if rfl (fun c1 => ?_) (fun c1 => ?_) | refine WP_ifb rfl (fun c1 => ?_) (fun c1 => ?_)
  · skip
    refine WP_seq_k fun K4 hK4 => ?_
    refine WP_region ?_
    refine RL_do rfl rfl (Do_assign rfl) ?_
    refine (RL_nil (thenQ_n (hK4 _ _ ?_)))
    refine (WP_ret (thenQ_r (post1 (v1 := .int _ _) rfl rfl ?_)))
    exact ⟨reti (placeN_1 (by omega)).symm, H.kept⟩
  · skip
    refine (WP_skip (thenQ_n (hK2 _ _ ?_)))
    refine WP_seq_k fun K5 hK5 => ?_
    refine WP_seq_k fun K6 hK6 => ?_
    refine WP_region ?_
    refine RL_do rfl rfl (Do_move (v := .int _ _) rfl) ?_
    refine RL_do rfl rfl (Do_move (v := .slice _ _ _) rfl) ?_
    refine RL_do rfl rfl (Do_len u22 rfl) ?_
    refine RL_do rfl rfl (Do_gtr rfl rfl) ?_
    first | refine RL_split rfl rfl rfl (fun c2 => ?_) (fun c2 => ?_) | refine RL_splitb rfl rfl rfl (fun c2 => ?_) (fun c2 => ?_)
    · skip
      refine RL_off rfl rfl ?_
      refine RL_off rfl rfl ?_
      refine RL_off rfl rfl ?_
      refine RL_off rfl rfl ?_
      refine RL_off rfl rfl ?_
      refine RL_off rfl rfl ?_
      refine RL_do rfl rfl (Do_pick_t (v := .bool _) rfl rfl) ?_
      refine (RL_nil (thenQ_n (hK6 _ _ ?_)))
      refine WP_ift rfl ?_
      refine WP_seq_k fun K7 hK7 => ?_
      refine WP_region ?_
      refine RL_do rfl rfl (Do_assign rfl) ?_
      refine (RL_nil (thenQ_n (hK7 _ _ ?_)))
      refine (WP_ret (thenQ_r (post1 (v1 := .int _ _) rfl rfl ?_)))
      exact ⟨reti (placeN_2 (by omega) (by omega)).symm, H.kept⟩
    · skip
      refine RL_do rfl rfl (Do_move (v := .slice _ _ _) rfl) ?_
      refine RL_do rfl rfl (Do_len u22 rfl) ?_
      refine RL_do rfl rfl (Do_move (v := .int _ _) rfl) ?_
      refine RL_do rfl rfl (Do_sub rfl rfl (wrap_i64 (by omega) (by omega))) ?_
      refine RL_do rfl rfl (Do_move (v := .int _ _) rfl) ?_
      refine RL_do rfl rfl (Do_lss rfl rfl) ?_
      refine RL_do rfl rfl (Do_pick_f (v := .bool _) rfl rfl) ?_
      refine (RL_nil (thenQ_n (hK6 _ _ ?_)))
      first | refine WP_if rfl (fun c3 => ?_) (fun c3 => ?_) | refine WP_ifb rfl (fun c3 => ?_) (fun c3 => ?_)
      · skip
        refine WP_seq_k fun K8 hK8 => ?_
        refine WP_region ?_
        refine RL_do rfl rfl (Do_assign rfl) ?_
        refine (RL_nil (thenQ_n (hK8 _ _ ?_)))
        refine (WP_ret (thenQ_r (post1 (v1 := .int _ _) rfl rfl ?_)))
        exact ⟨reti (placeN_2 (by omega) (by omega)).symm, H.kept⟩
      · skip
        refine (WP_skip (thenQ_n (hK5 _ _ ?_)))
        refine WP_seq_k fun K9 hK9 => ?_
        refine WP_region ?_
        refine RL_do rfl rfl (Do_assign rfl) ?_
        refine (RL_nil (thenQ_n (hK9 _ _ ?_)))
        refine (WP_ret (post1 (v1 := .int _ _) rfl rfl ?_))
        exact ⟨reti (placeN_3 (by omega) (by omega)).symm, H.kept⟩

/-- orangebox/orangeboxref1.Wide -/
theorem WideRef_c (f : List Nat) (hl : f.length = 64) (hs : Small f) (w : World) :
    Calls Tryd.prog 74 #[.agg (wds f).toArray] w fun e w' => e = .returned (.bool (decide (wideN f))) ∧ Below w.heap.size w w' := by
  refine calls_of_WP (args := [.agg (wds f).toArray]) 12 Tryd.func74 rfl rfl rfl ?_
  have H := Sep.start [] w
  refine WP_seq_k fun K1 hK1 => ?_
  refine WP_region ?_
  refine RL_ex rfl rfl (Ex_box rfl) ?_
  rintro _ w130 ⟨b28, rfl, hA⟩
  replace H := H.alloc hA
  refine RL_do rfl rfl (Do_assign rfl) ?_
  refine (RL_nil (thenQ_n (hK1 _ _ ?_)))
  refine WP_seq_k fun K2 hK2 => ?_
  refine WP_seq_k fun K3 hK3 => ?_
  refine WP_region ?_
  refine RL_do rfl rfl (Do_loads agg25 rfl sz25 (by simp [wds_length, bys_length, hl]) (Blk.cells (Sep.blk (i := 0) H rfl))) ?_
  refine RL_do rfl rfl (Do_move rfl) ?_
  refine (RL_nil (thenQ_n (hK3 _ _ ?_)))
  refine WP_block ?_
  refine WP_loopS [2, 4, 6, 7, 8, 9, 10, 11] (fun (g : Nat) => [(6, .int .i64 (g : Nat))]) (fun (g : Nat) wl => Sep [] w wl [.blk b28 (wds f) 25] ∧ g ≤ 64 ∧ ∀ i, i < g → ¬ 4095 < wd f i) (fun (g : Nat) => 64 - g) (0) (Sl_cons rfl Sl_nil) ⟨H, ⟨by decide, fun i h => by omega⟩⟩ ?_
  clear H
  rintro k ρ w131 ⟨H, ⟨hk, hi⟩⟩
  refine WP_seq_k fun K4 hK4 => ?_
  refine WP_region ?_
  refine RL_do rfl rfl (Do_lss rfl rfl) ?_
  refine (RL_nil (thenQ_n (hK4 _ _ ?_)))
  refine WP_seq_k fun K5 hK5 => ?_
  first | refine WP_if rfl (fun c1 => ?_) (fun c1 => ?_) | refine WP_ifb rfl (fun c1 => ?_) (fun c1 => ?_)
  · skip
    refine (WP_skip (thenQ_n (hK5 _ _ ?_)))
    refine WP_seq_k fun K6 hK6 => ?_
    refine WP_block ?_
    refine WP_seq_k fun K7 hK7 => ?_
    refine WP_region ?_
    refine RL_do rfl rfl (Do_index1 u25 one23 sz23 rfl rfl (by omega) (by omega) (by rw [Int.toNat_natCast]; exact wds_get (by omega))) ?_
    refine RL_do rfl rfl (Do_assign (v := .int _ _) rfl) ?_
    refine (RL_nil (thenQ_n (hK7 _ _ ?_)))
    refine WP_seq_k fun K8 hK8 => ?_
    refine WP_region ?_
    refine RL_do rfl rfl (Do_move (v := .int _ _) rfl) ?_
    refine RL_do rfl rfl (Do_gtr rfl rfl) ?_
    refine (RL_nil (thenQ_n (hK8 _ _ ?_)))
    first | refine WP_if rfl (fun c2 => ?_) (fun c2 => ?_) | refine WP_ifb rfl (fun c2 => ?_) (fun c2 => ?_)
    · skip
      refine WP_seq_k fun K9 hK9 => ?_
      refine WP_region ?_
      refine RL_do rfl rfl (Do_assign rfl) ?_
      refine (RL_nil (thenQ_n (hK9 _ _ ?_)))
      refine (WP_ret (blockQ_r (thenQ_r (thenQ_r (blockQ_r (thenQ_r (post1 (v1 := .bool _) rfl rfl ?_)))))))
      exact ⟨retbt ⟨k, by omega, by omega⟩, H.kept⟩
    · skip
      refine (WP_skip (blockQ_n (thenQ_n (hK6 _ _ ?_))))
      refine WP_region ?_
      refine RL_do rfl rfl (Do_add rfl rfl (wrap_i64 (by omega) (by omega))) ?_
      refine RL_do rfl rfl (Do_move (v := .int _ _) rfl) ?_
      refine (RL_nil (thenQ_n (And.intro ?_ ?_)))
      · repeat' (first | with_reducible exact Fr_refl | refine Fr_upd rfl ?_ | refine Fr_over rfl rfl ?_)
      · refine ⟨k + 1, (Sl_cons (by first | rfl | exact congrArg (Value.int _) (by omega)) Sl_nil), ?_, ?_⟩
        · exact ⟨H, by omega, upto_succ hi (by omega)⟩
        · simp; omega
  · skip
    refine (WP_exit (thenQ_x (thenQ_x (blockQ_eq (thenQ_n (hK2 _ _ ?_))))))
    refine WP_seq_k fun K10 hK10 => ?_
    refine WP_region ?_
    refine RL_do rfl rfl (Do_assign rfl) ?_
    refine (RL_nil (thenQ_n (hK10 _ _ ?_)))
    refine (WP_ret (post1 (v1 := .bool _) rfl rfl ?_))
    exact ⟨retbf (fun ⟨i, h1, h2⟩ => hi i (by omega) h2), H.kept⟩

/-- orangebox/orangeboxref1.Half -/
theorem Half_c (f : List Nat) (hl : f.length = 64) (hs : Small f) (x : Int) (j : Nat) (hx : x = j) (hj : j < 192) (w : World) :
    Calls Tryd.prog 107 #[.agg (wds f).toArray, .int .i64 x] w fun e w' => e = .returned (.int .i64 (nibN f j : Nat)) ∧ Below w.heap.size w w' := by
  have q1 := hs (j / 3)
  have q4 := nib_pow (wd f (j / 3)) (j % 3) (by omega)
  have q3 : (0 : Int) ≤ ((wd f (j / 3) / 2 ^ (8 - j % 3 * 4) : Nat) : Int) := Int.natCast_nonneg _
  have q2 := Nat.div_le_self (wd f (j / 3)) (2 ^ (8 - j % 3 * 4))
  refine calls_of_WP (args := [.agg (wds f).toArray, .int .i64 x]) 16 Tryd.func107 rfl rfl rfl ?_
  have H := Sep.start [] w
  refine WP_seq_k fun K1 hK1 => ?_
  refine WP_region ?_
  refine RL_ex rfl rfl (Ex_box rfl) ?_
  rintro _ w132 ⟨b29, rfl, hA⟩
  replace H := H.alloc hA
  refine RL_do rfl rfl (Do_assign rfl) ?_
  refine (RL_nil (thenQ_n (hK1 _ _ ?_)))
  refine WP_seq_k fun K2 hK2 => ?_
  refine WP_region ?_
  refine RL_do rfl rfl (Do_move (v := .int _ _) rfl) ?_
  refine RL_do rfl rfl (Do_quo rfl rfl (by omega) (by omega) (wrap_i64 (by omega) (by omega))) ?_
  refine RL_do rfl rfl (Do_idxa1 u25 sz23 rfl rfl (by omega) (by omega) (by omega : _ = j / 3) (by first | exact Nat.zero_add _ | rfl)) ?_
  refine RL_do rfl rfl (Do_load one23 rfl (Blk.cell (Sep.blk (i := 0) H rfl) (wds_get (by omega)))) ?_
  refine RL_do rfl rfl (Do_conv u23 u3 rfl (wrap_i64 (by omega) (by omega))) ?_
  refine RL_do rfl rfl (Do_move (v := .int _ _) rfl) ?_
  refine RL_do rfl rfl (Do_rem rfl rfl (by omega) (by omega)) ?_
  refine RL_do rfl rfl (Do_mul rfl rfl (wrap_i64 (by omega) (by omega))) ?_
  refine RL_do rfl rfl (Do_sub rfl rfl (wrap_i64 (by omega) (by omega))) ?_
  refine RL_do rfl rfl (Do_as (Do_shr rfl rfl (by omega) (by show _ ≤ (64 : Int); omega) rfl) (Go.OB.shr_vari (wd f (j / 3)) (8 - j % 3 * 4) rfl (by omega))) ?_
  refine RL_do rfl rfl (Do_and rfl rfl (mask_i64 4 (by decide) (rfl : _ = (16 : Int)) (by omega) (by omega))) ?_
  refine RL_do rfl rfl (Do_assign (v := .int _ _) rfl) ?_
  refine (RL_nil (thenQ_n (hK2 _ _ ?_)))
  refine (WP_ret (post1 (v1 := .int _ _) rfl rfl ?_))
  exact ⟨reti (by unfold nibN; rw [← q4]; omega), H.kept⟩

/-- orangebox/orangeboxref1.bytes -/
theorem bytesRef_c (f : List Nat) (hl : f.length = 64) (hs : Small f) (w : World) :
    Calls Tryd.prog 76 #[.agg (wds f).toArray] w fun e w' => ∃ b, e = .returned (.slice (some ⟨b, 0, none⟩) 96 96) ∧ Blk w' b (bys (bytesN f)) 5 ∧ w.heap.size ≤ b ∧ Below w.heap.size w w' := by
  refine calls_of_WP (args := [.agg (wds f).toArray]) 28 Tryd.func76 rfl rfl rfl ?_
  have H := Sep.start [] w
  refine WP_seq_k fun K1 hK1 => ?_
  refine WP_region ?_
  refine RL_ex rfl rfl (Ex_box rfl) ?_
  rintro _ w133 ⟨b30, rfl, hA⟩
  replace H := H.alloc hA
  refine RL_do rfl rfl (Do_assign rfl) ?_
  refine (RL_nil (thenQ_n (hK1 _ _ ?_)))
  refine WP_seq_k fun K2 hK2 => ?_
  refine WP_region ?_
  refine RL_ex rfl rfl (Ex_ms (n := 96) (cs := List.replicate 96 (.int .u8 0)) u22 el5 rfl rfl (by decide) (by decide) (by kernel_rfl)) ?_
  rintro _ w134 ⟨b31, rfl, hA⟩
  replace H := H.alloc hA
  replace H := H.conv (i := 1) rfl (cs' := bys (byTo f 0)) rfl
  refine RL_do rfl rfl (Do_assign (v := .slice _ _ _) rfl) ?_
  refine (RL_nil (thenQ_n (hK2 _ _ ?_)))
  refine WP_seq_k fun K3 hK3 => ?_
  refine WP_seq_k fun K4 hK4 => ?_
  refine WP_region ?_
  refine RL_do rfl rfl (Do_move (v := .slice _ _ _) rfl) ?_
  refine RL_do rfl rfl (Do_len u22 rfl) ?_
  refine RL_do rfl rfl (Do_move rfl) ?_
  refine (RL_nil (thenQ_n (hK4 _ _ ?_)))
  refine WP_block ?_
  refine WP_loopS [4, 8, 9, 10, 11, 12, 13, 14, 15, 16, 17, 18, 19, 20, 21, 22, 23, 24, 25, 26] (fun (g : Nat) => [(8, .int .i64 (g : Nat))]) (fun (g : Nat) wl => Sep [] w wl [.blk b30 (wds f) 25, .blk b31 (bys (byTo f g)) 5] ∧ g ≤ 96) (fun (g : Nat) => 96 - g) (0) (Sl_cons rfl Sl_nil) ⟨H, by decide⟩ ?_
  clear H
  rintro k ρ w135 ⟨H, hk⟩
  refine WP_seq_k fun K5 hK5 => ?_
  refine WP_region ?_
  refine RL_do rfl rfl (Do_lss rfl rfl) ?_
  refine (RL_nil (thenQ_n (hK5 _ _ ?_)))
  refine WP_seq_k fun K6 hK6 => ?_
  first | refine WP_if rfl (fun c1 => ?_) (fun c1 => ?_) | refine WP_ifb rfl (fun c1 => ?_) (fun c1 => ?_)
  · skip
    refine (WP_skip (thenQ_n (hK6 _ _ ?_)))
    refine WP_seq_k fun K7 hK7 => ?_
    refine WP_block ?_
    refine WP_seq_k fun K8 hK8 => ?_
    refine WP_region ?_
    refine RL_do rfl rfl (Do_move (v := .int _ _) rfl) ?_
    refine RL_do rfl rfl (Do_assign (v := .int _ _) rfl) ?_
    refine (RL_nil (thenQ_n (hK8 _ _ ?_)))
    refine WP_mix [.pure, .pure, .read, .pure, .pure, .read, .pure, .read, .pure, .pure, .pure, .read, .pure, .pure, .pure, .eff] mixed (by kernel_rfl) (by kernel_rfl) (by kernel_rfl) ?_
    refine XL_pure rfl rfl rfl (fun w' => Do_move (v := .slice _ _ _) rfl) ?_
    have n1 : nibN f (2 * k) < 16 := Nat.mod_lt _ (by decide)
    have n2 : nibN f (2 * k + 1) < 16 := Nat.mod_lt _ (by decide)
    refine XL_pure rfl rfl rfl (fun w' => Do_move (v := .int _ _) rfl) ?_
    refine XL_read rfl rfl rfl (fun w' hw' => Do_loads agg25 rfl sz25 (by simp [wds_length, bys_length, hl, byTo_len]) (Blk.cells (Sep.blk (i := 0) (Sep.sees H hw') rfl))) ?_
    refine XL_pure rfl rfl rfl (fun w' => Do_move (v := .int _ _) rfl) ?_
    refine XL_pure rfl rfl rfl (fun w' => Do_mul rfl rfl (wrap_i64 (by omega) (by omega))) ?_
    refine XL_call rfl rfl rfl (fun w' hw' => DoC_func en107 rfl) (fun w' hw' => Half_c f hl hs _ (2 * k) (by omega) (by omega) w') ?_
    refine XL_pure rfl rfl rfl (fun w' => Do_mul rfl rfl (wrap_i64 (by omega) (by omega))) ?_
    refine XL_read rfl rfl rfl (fun w' hw' => Do_loads agg25 rfl sz25 (by simp [wds_length, bys_length, hl, byTo_len]) (Blk.cells (Sep.blk (i := 0) (Sep.sees H hw') rfl))) ?_
    refine XL_pure rfl rfl rfl (fun w' => Do_move (v := .int _ _) rfl) ?_
    refine XL_pure rfl rfl rfl (fun w' => Do_mul rfl rfl (wrap_i64 (by omega) (by omega))) ?_
    refine XL_pure rfl rfl rfl (fun w' => Do_add rfl rfl (wrap_i64 (by omega) (by omega))) ?_
    refine XL_call rfl rfl rfl (fun w' hw' => DoC_func en107 rfl) (fun w' hw' => Half_c f hl hs _ (2 * k + 1) (by omega) (by omega) w') ?_
    refine XL_pure rfl rfl rfl (fun w' => Do_add rfl rfl (wrap_i64 (by omega) (by omega))) ?_
    have q1 := byteN_lt f k
    refine XL_pure rfl rfl rfl (fun w' => Do_conv u3 u5 rfl (c := ((byteN f k : Nat) : Int)) (by rw [IntKind.wrap_u8]; unfold byteN nibN at *; omega)) ?_
    refine XL_pure rfl rfl rfl (fun w' => Do_idx1 u22 sz5 rfl rfl (by omega) (by omega) (by omega : _ = k) (by first | exact Nat.zero_add _ | rfl)) ?_
    refine XL_exU rfl rfl (fun w' hw' => Ex_store1 sz5 rfl rfl rfl (Sep.blk (i := 1) (Sep.sees H hw') rfl) (by simp [bys_length, byTo_len]; omega)) ?_
    rintro w' w136 hw' hW
    replace H := (Sep.sees H hw').wr (i := 1) rfl hW
    replace H := H.conv (i := 1) rfl (bys_setI _ k (n := byteN f k) rfl)
    refine XL_nil fun w137 hS => ?_
    replace H := H.sees hS
    refine (blockQ_n (thenQ_n (hK7 _ _ ?_)))
    refine WP_region ?_
    refine RL_do rfl rfl (Do_add rfl rfl (wrap_i64 (by omega) (by omega))) ?_
    refine RL_do rfl rfl (Do_move (v := .int _ _) rfl) ?_
    refine (RL_nil (thenQ_n (And.intro ?_ ?_)))
    · repeat' (first | with_reducible exact Fr_refl | refine Fr_upd rfl ?_ | refine Fr_over rfl rfl ?_)
    · refine ⟨k + 1, (Sl_cons (by first | rfl | exact congrArg (Value.int _) (by omega)) Sl_nil), ?_, ?_⟩
      · exact ⟨H, by omega⟩
      · simp; omega
  · skip
    refine (WP_exit (thenQ_x (thenQ_x (blockQ_eq (thenQ_n (hK3 _ _ ?_))))))
    refine WP_seq_k fun K9 hK9 => ?_
    refine WP_region ?_
    (obtain rfl : k = 96 := by omega)
    replace H := H.conv (i := 1) rfl (congrArg bys (byTo_eq rfl))
    refine RL_do rfl rfl (Do_move (v := .slice _ _ _) rfl) ?_
    refine RL_do rfl rfl (Do_assign (v := .slice _ _ _) rfl) ?_
    refine (RL_nil (thenQ_n (hK9 _ _ ?_)))
    refine (WP_ret (post1 (v1 := .slice _ _ _) rfl rfl ?_))
    exact ⟨_, rfl, H.blk (i := 1) rfl, H.ge0 (i := 1) rfl, H.kept⟩
end Go.Proofs.YtafgmocdnjdmoaaDoor
