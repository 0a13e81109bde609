/- What the walks and the laws stand on; no condition but those that stand in the statements. -/
import Derived.Test.YtafgmocdnjdmoaaDoorRows
import Derived.Test.YtafgmocdnjdmoaaDoorC4
import Derived.Test.YtafgmocdnjdmoaaDoorFrm2
namespace Go.Proofs.YtafgmocdnjdmoaaDoor
open Go.RowKit Go.OB Go.Fr1
theorem u128 : Tryd.prog.underlying 128 = some (.array 4 3) := Tryd.underlying128
theorem bt128 (a0 : Int) (a1 : Int) (a2 : Int) (a3 : Int) : Tryd.prog.built 128 [(0, .int .i64 a0), (1, .int .i64 a1), (2, .int .i64 a2), (3, .int .i64 a3)] = some [.int .i64 a0, .int .i64 a1, .int .i64 a2, .int .i64 a3].toArray := by kernel_rfl
theorem en84 : Enters Tryd.prog 84 := ⟨_, Tryd.func84, rfl, by kernel_rfl⟩
theorem en87 : Enters Tryd.prog 87 := ⟨_, Tryd.func87, rfl, by kernel_rfl⟩
theorem en88 : Enters Tryd.prog 88 := ⟨_, Tryd.func88, rfl, by kernel_rfl⟩
/-- orangebox/orangeboxref1.odd -/
theorem oddR_c (x : Int) (n : Nat) (hx : x = n) (hn : n < 65536) (w : World) :
    Calls Tryd.prog 87 #[.int .i64 x] w fun e w' => e = .returned (.bool (decide (oddN n))) ∧ Below w.heap.size w w' := by
  refine calls_of_WP (args := [.int .i64 x]) 15 Tryd.func87 rfl rfl rfl ?_
  have H := Sep.start [] w
  refine WP_seq_k fun K1 hK1 => ?_
  refine WP_region ?_
  refine RL_do rfl rfl (Do_assign rfl) ?_
  refine (RL_nil (thenQ_n (hK1 _ _ ?_)))
  refine WP_seq_k fun K2 hK2 => ?_
  refine WP_region ?_
  refine RL_do rfl rfl (Do_assign rfl) ?_
  refine (RL_nil (thenQ_n (hK2 _ _ ?_)))
  refine WP_seq_k fun K3 hK3 => ?_
  refine WP_block ?_
  refine WP_loopS2 [0, 3, 4, 5, 6, 7, 8, 9, 10, 11] (fun (g : Nat) (h : Nat) => [(0, .int .i64 (g : Nat)), (3, .int .i64 (h : Nat))]) (fun (g : Nat) (h : Nat) wl => Sep [] w wl [] ∧ g ≤ n ∧ h + pop g = pop n) (fun (g : Nat) (h : Nat) => g) (n) (0) (Sl_cons (vint hx) (Sl_cons rfl Sl_nil)) ⟨H, ⟨Nat.le_refl _, by omega⟩⟩ ?_
  clear H
  rintro m k ρ w81 ⟨H, ⟨hm, hk⟩⟩
  refine WP_seq_k fun K4 hK4 => ?_
  refine WP_seq_k fun K5 hK5 => ?_
  refine WP_region ?_
  refine RL_do rfl rfl (Do_move (v := .int _ _) rfl) ?_
  refine RL_do rfl rfl (Do_gtr rfl rfl) ?_
  refine (RL_nil (thenQ_n (hK5 _ _ ?_)))
  first | refine WP_if rfl (fun c1 => ?_) (fun c1 => ?_) | refine WP_ifb rfl (fun c1 => ?_) (fun c1 => ?_)
  · skip
    refine (WP_skip (thenQ_n (hK4 _ _ ?_)))
    refine WP_seq_k fun K6 hK6 => ?_
    refine WP_block ?_
    refine WP_region ?_
    refine RL_do rfl rfl (Do_move (v := .int _ _) rfl) ?_
    have q1 := pop_le n
    have q2 := pop_le m
    refine RL_do rfl rfl (Do_move (v := .int _ _) rfl) ?_
    refine RL_do rfl rfl (Do_rem rfl rfl (by omega) (by omega)) ?_
    refine RL_do rfl rfl (Do_add rfl rfl (wrap_i64 (by omega) (by omega))) ?_
    refine RL_do rfl rfl (Do_assign (v := .int _ _) rfl) ?_
    refine (RL_nil (blockQ_n (thenQ_n (hK6 _ _ ?_))))
    refine WP_region ?_
    refine RL_do rfl rfl (Do_move (v := .int _ _) rfl) ?_
    refine RL_do rfl rfl (Do_quo rfl rfl (by omega) (by omega) (wrap_i64 (by omega) (by omega))) ?_
    refine RL_do rfl rfl (Do_assign (v := .int _ _) rfl) ?_
    refine (RL_nil (thenQ_n (And.intro ?_ ?_)))
    · repeat' (first | with_reducible exact Fr_refl | refine Fr_upd rfl ?_ | refine Fr_over rfl rfl ?_)
    · refine ⟨m / 2, k + m % 2, (Sl_cons (vint (by omega)) (Sl_cons (vint (by omega)) Sl_nil)), ?_, ?_⟩
      · exact ⟨H, by omega, by rw [← hk, pop_half (m := m) (by omega)]; omega⟩
      · omega
  · skip
    refine (WP_exit (thenQ_x (thenQ_x (blockQ_eq (thenQ_n (hK3 _ _ ?_))))))
    refine WP_seq_k fun K7 hK7 => ?_
    refine WP_region ?_
    (obtain rfl : m = 0 := by omega)
    have q1 := pop_zero
    have q2 := pop_le n
    refine RL_do rfl rfl (Do_move (v := .int _ _) rfl) ?_
    refine RL_do rfl rfl (Do_rem rfl rfl (by omega) (by omega)) ?_
    refine RL_do rfl rfl (Do_eql rfl rfl) ?_
    refine RL_do rfl rfl (Do_assign (v := .bool _) rfl) ?_
    refine (RL_nil (thenQ_n (hK7 _ _ ?_)))
    refine (WP_ret (post1 (v1 := .bool _) rfl rfl ?_))
    exact ⟨retb (by unfold oddN; omega), H.kept⟩

/-- orangebox/orangeboxref1.word -/
theorem wordRef_c (x : Int) (n : Nat) (hx : x = n) (hn : n < 2048) (w : World) :
    Calls Tryd.prog 84 #[.int .i64 x] w fun e w' => e = .returned (.int .i64 (wordN n : Nat)) ∧ Below w.heap.size w w' := by
  refine calls_of_WP (args := [.int .i64 x]) 8 Tryd.func84 rfl rfl rfl ?_
  have H := Sep.start [] w
  refine WP_seq_k fun K1 hK1 => ?_
  refine WP_region ?_
  refine RL_do rfl rfl (Do_assign rfl) ?_
  refine (RL_nil (thenQ_n (hK1 _ _ ?_)))
  refine WP_seq_k fun K2 hK2 => ?_
  refine WP_seq_k fun K3 hK3 => ?_
  refine WP_region ?_
  refine RL_do rfl rfl (Do_move (v := .int _ _) rfl) ?_
  refine RL_call rfl rfl (DoC_func en87 rfl) (oddR_c _ n hx (by omega) w) ?_
  rintro _ w82 ⟨rfl, hB⟩
  replace H := H.below hB
  refine ⟨_, rfl, ?_⟩
  refine (RL_nil (thenQ_n (hK3 _ _ ?_)))
  first | refine WP_if rfl (fun c1 => ?_) (fun c1 => ?_) | refine WP_ifb rfl (fun c1 => ?_) (fun c1 => ?_)
  · skip
    refine WP_seq_k fun K4 hK4 => ?_
    refine WP_region ?_
    refine RL_do rfl rfl (Do_move (v := .int _ _) rfl) ?_
    refine RL_do rfl rfl (Do_assign (v := .int _ _) rfl) ?_
    refine (RL_nil (thenQ_n (hK4 _ _ ?_)))
    refine (WP_ret (thenQ_r (post1 (v1 := .int _ _) rfl rfl ?_)))
    exact ⟨reti (by rw [wordN, if_pos (by assumption)]; exact hx), H.kept⟩
  · skip
    refine (WP_skip (thenQ_n (hK2 _ _ ?_)))
    refine WP_seq_k fun K5 hK5 => ?_
    refine WP_region ?_
    refine RL_do rfl rfl (Do_move (v := .int _ _) rfl) ?_
    refine RL_do rfl rfl (Do_add rfl rfl (wrap_i64 (by omega) (by omega))) ?_
    refine RL_do rfl rfl (Do_assign (v := .int _ _) rfl) ?_
    refine (RL_nil (thenQ_n (hK5 _ _ ?_)))
    refine (WP_ret (post1 (v1 := .int _ _) rfl rfl ?_))
    exact ⟨reti (by rw [wordN, if_neg (by assumption)]; omega), H.kept⟩

/-- orangebox/frame.Word -/
theorem Word_c (d : Int) (w : World) :
    Calls Tryd.prog 26 #[.int .i64 d] w fun e w' => e = .returned (.tuple #[.int .i64 (wordR d).1, .int .i64 (wordR d).2]) ∧ Below w.heap.size w w' := by
  refine calls_of_WP (args := [.int .i64 d]) 13 Tryd.func26 rfl rfl rfl ?_
  have H := Sep.start [] w
  refine WP_seq_k fun K1 hK1 => ?_
  refine WP_region ?_
  refine RL_do rfl rfl (Do_assign rfl) ?_
  refine RL_do rfl rfl (Do_assign rfl) ?_
  refine (RL_nil (thenQ_n (hK1 _ _ ?_)))
  refine WP_seq_k fun K2 hK2 => ?_
  refine WP_seq_k fun K3 hK3 => ?_
  refine WP_region ?_
  refine RL_do rfl rfl (Do_move (v := .int _ _) rfl) ?_
  refine RL_do rfl rfl (Do_lss rfl rfl) ?_
  first | refine RL_split rfl rfl rfl (fun c1 => ?_) (fun c1 => ?_) | refine RL_splitb rfl rfl rfl (fun c1 => ?_) (fun c1 => ?_)
  · skip
    refine RL_off rfl rfl ?_
    refine RL_off rfl rfl ?_
    refine RL_do rfl rfl (Do_pick_t (v := .bool _) rfl rfl) ?_
    refine (RL_nil (thenQ_n (hK3 _ _ ?_)))
    refine WP_ift rfl ?_
    refine WP_seq_k fun K4 hK4 => ?_
    refine WP_region ?_
    refine RL_do rfl rfl (Do_assign rfl) ?_
    refine RL_do rfl rfl (Do_assign rfl) ?_
    refine (RL_nil (thenQ_n (hK4 _ _ ?_)))
    refine (WP_ret (thenQ_r (post2 (v1 := .int _ _) (v2 := .int _ _) rfl rfl rfl ?_)))
    exact ⟨by rw [wordR_1 (by omega)], H.kept⟩
  · skip
    refine RL_do rfl rfl (Do_move (v := .int _ _) rfl) ?_
    refine RL_do rfl rfl (Do_gtr rfl rfl) ?_
    refine RL_do rfl rfl (Do_pick_f (v := .bool _) rfl rfl) ?_
    refine (RL_nil (thenQ_n (hK3 _ _ ?_)))
    first | refine WP_if rfl (fun c2 => ?_) (fun c2 => ?_) | refine WP_ifb rfl (fun c2 => ?_) (fun c2 => ?_)
    · skip
      refine WP_seq_k fun K5 hK5 => ?_
      refine WP_region ?_
      refine RL_do rfl rfl (Do_assign rfl) ?_
      refine RL_do rfl rfl (Do_assign rfl) ?_
      refine (RL_nil (thenQ_n (hK5 _ _ ?_)))
      refine (WP_ret (thenQ_r (post2 (v1 := .int _ _) (v2 := .int _ _) rfl rfl rfl ?_)))
      exact ⟨by rw [wordR_1 (by omega)], H.kept⟩
    · skip
      refine (WP_skip (thenQ_n (hK2 _ _ ?_)))
      refine WP_seq_k fun K6 hK6 => ?_
      refine WP_region ?_
      have q1 := wordN_lt (d := d.toNat) (by omega)
      refine RL_do rfl rfl (Do_move (v := .int _ _) rfl) ?_
      refine RL_call rfl rfl (DoC_func en83 rfl) (word_c _ d.toNat (by omega) (by omega) w) ?_
      rintro _ w83 ⟨rfl, hB⟩
      replace H := H.below hB
      refine ⟨_, rfl, ?_⟩
      refine RL_do rfl rfl (Do_conv u23 u3 rfl (wrap_i64 (by omega) (by omega))) ?_
      refine RL_do rfl rfl (Do_assign (v := .int _ _) rfl) ?_
      refine RL_do rfl rfl (Do_assign rfl) ?_
      refine (RL_nil (thenQ_n (hK6 _ _ ?_)))
      refine (WP_ret (post2 (v1 := .int _ _) (v2 := .int _ _) rfl rfl rfl ?_))
      exact ⟨by rw [wordR_2 (by omega)], H.kept⟩

/-- orangebox/orangeboxref1.Word -/
theorem WordRef_c (d : Int) (w : World) :
    Calls Tryd.prog 27 #[.int .i64 d] w fun e w' => e = .returned (.tuple #[.int .i64 (wordR d).1, .int .i64 (wordR d).2]) ∧ Below w.heap.size w w' := by
  refine calls_of_WP (args := [.int .i64 d]) 12 Tryd.func27 rfl rfl rfl ?_
  have H := Sep.start [] w
  refine WP_seq_k fun K1 hK1 => ?_
  refine WP_region ?_
  refine RL_do rfl rfl (Do_assign rfl) ?_
  refine RL_do rfl rfl (Do_assign rfl) ?_
  refine (RL_nil (thenQ_n (hK1 _ _ ?_)))
  refine WP_seq_k fun K2 hK2 => ?_
  refine WP_seq_k fun K3 hK3 => ?_
  refine WP_region ?_
  refine RL_do rfl rfl (Do_move (v := .int _ _) rfl) ?_
  refine RL_do rfl rfl (Do_lss rfl rfl) ?_
  first | refine RL_split rfl rfl rfl (fun c1 => ?_) (fun c1 => ?_) | refine RL_splitb rfl rfl rfl (fun c1 => ?_) (fun c1 => ?_)
  · skip
    refine RL_off rfl rfl ?_
    refine RL_off rfl rfl ?_
    refine RL_do rfl rfl (Do_pick_t (v := .bool _) rfl rfl) ?_
    refine (RL_nil (thenQ_n (hK3 _ _ ?_)))
    refine WP_ift rfl ?_
    refine WP_seq_k fun K4 hK4 => ?_
    refine WP_region ?_
    refine RL_do rfl rfl (Do_assign rfl) ?_
    refine RL_do rfl rfl (Do_assign rfl) ?_
    refine (RL_nil (thenQ_n (hK4 _ _ ?_)))
    refine (WP_ret (thenQ_r (post2 (v1 := .int _ _) (v2 := .int _ _) rfl rfl rfl ?_)))
    exact ⟨by rw [wordR_1 (by omega)], H.kept⟩
  · skip
    refine RL_do rfl rfl (Do_move (v := .int _ _) rfl) ?_
    refine RL_do rfl rfl (Do_gtr rfl rfl) ?_
    refine RL_do rfl rfl (Do_pick_f (v := .bool _) rfl rfl) ?_
    refine (RL_nil (thenQ_n (hK3 _ _ ?_)))
    first | refine WP_if rfl (fun c2 => ?_) (fun c2 => ?_) | refine WP_ifb rfl (fun c2 => ?_) (fun c2 => ?_)
    · skip
      refine WP_seq_k fun K5 hK5 => ?_
      refine WP_region ?_
      refine RL_do rfl rfl (Do_assign rfl) ?_
      refine RL_do rfl rfl (Do_assign rfl) ?_
      refine (RL_nil (thenQ_n (hK5 _ _ ?_)))
      refine (WP_ret (thenQ_r (post2 (v1 := .int _ _) (v2 := .int _ _) rfl rfl rfl ?_)))
      exact ⟨by rw [wordR_1 (by omega)], H.kept⟩
    · skip
      refine (WP_skip (thenQ_n (hK2 _ _ ?_)))
      refine WP_seq_k fun K6 hK6 => ?_
      refine WP_region ?_
      refine RL_do rfl rfl (Do_move (v := .int _ _) rfl) ?_
      refine RL_call rfl rfl (DoC_func en84 rfl) (wordRef_c _ d.toNat (by omega) (by omega) w) ?_
      rintro _ w84 ⟨rfl, hB⟩
      replace H := H.below hB
      refine ⟨_, rfl, ?_⟩
      refine RL_do rfl rfl (Do_assign (v := .int _ _) rfl) ?_
      refine RL_do rfl rfl (Do_assign rfl) ?_
      refine (RL_nil (thenQ_n (hK6 _ _ ?_)))
      refine (WP_ret (post2 (v1 := .int _ _) (v2 := .int _ _) rfl rfl rfl ?_))
      exact ⟨by rw [wordR_2 (by omega)], H.kept⟩

/-- orangebox/frame.Data -/
theorem Data_c (x : Int) (w : World) :
    Calls Tryd.prog 28 #[.int .i64 x] w fun e w' => e = .returned (.tuple #[.int .i64 (dataR x).1, .bool (dataR x).2.1, .int .i64 (dataR x).2.2]) ∧ Below w.heap.size w w' := by
  refine calls_of_WP (args := [.int .i64 x]) 17 Tryd.func28 rfl rfl rfl ?_
  have H := Sep.start [] w
  refine WP_seq_k fun K1 hK1 => ?_
  refine WP_region ?_
  refine RL_do rfl rfl (Do_assign rfl) ?_
  refine RL_do rfl rfl (Do_assign rfl) ?_
  refine RL_do rfl rfl (Do_assign rfl) ?_
  refine (RL_nil (thenQ_n (hK1 _ _ ?_)))
  refine WP_seq_k fun K2 hK2 => ?_
  refine WP_seq_k fun K3 hK3 => ?_
  refine WP_region ?_
  refine RL_do rfl rfl (Do_move (v := .int _ _) rfl) ?_
  refine RL_do rfl rfl (Do_lss rfl rfl) ?_
  first | refine RL_split rfl rfl rfl (fun c1 => ?_) (fun c1 => ?_) | refine RL_splitb rfl rfl rfl (fun c1 => ?_) (fun c1 => ?_)
  · skip
    refine RL_off rfl rfl ?_
    refine RL_off rfl rfl ?_
    refine RL_do rfl rfl (Do_pick_t (v := .bool _) rfl rfl) ?_
    refine (RL_nil (thenQ_n (hK3 _ _ ?_)))
    refine WP_ift rfl ?_
    refine WP_seq_k fun K4 hK4 => ?_
    refine WP_region ?_
    refine RL_do rfl rfl (Do_assign rfl) ?_
    refine RL_do rfl rfl (Do_assign rfl) ?_
    refine RL_do rfl rfl (Do_assign rfl) ?_
    refine (RL_nil (thenQ_n (hK4 _ _ ?_)))
    refine (WP_ret (thenQ_r (post3 (v1 := .int _ _) (v2 := .bool _) (v3 := .int _ _) rfl rfl rfl rfl ?_)))
    exact ⟨by rw [dataR_1 (by omega)], H.kept⟩
  · skip
    refine RL_do rfl rfl (Do_move (v := .int _ _) rfl) ?_
    refine RL_do rfl rfl (Do_gtr rfl rfl) ?_
    refine RL_do rfl rfl (Do_pick_f (v := .bool _) rfl rfl) ?_
    refine (RL_nil (thenQ_n (hK3 _ _ ?_)))
    first | refine WP_if rfl (fun c2 => ?_) (fun c2 => ?_) | refine WP_ifb rfl (fun c2 => ?_) (fun c2 => ?_)
    · skip
      refine WP_seq_k fun K5 hK5 => ?_
      refine WP_region ?_
      refine RL_do rfl rfl (Do_assign rfl) ?_
      refine RL_do rfl rfl (Do_assign rfl) ?_
      refine RL_do rfl rfl (Do_assign rfl) ?_
      refine (RL_nil (thenQ_n (hK5 _ _ ?_)))
      refine (WP_ret (thenQ_r (post3 (v1 := .int _ _) (v2 := .bool _) (v3 := .int _ _) rfl rfl rfl rfl ?_)))
      exact ⟨by rw [dataR_1 (by omega)], H.kept⟩
    · skip
      refine (WP_skip (thenQ_n (hK2 _ _ ?_)))
      refine WP_seq_k fun K6 hK6 => ?_
      refine WP_region ?_
      refine RL_do rfl rfl (Do_move (v := .int _ _) rfl) ?_
      refine RL_do rfl rfl (Do_conv u3 u23 rfl (wrap_u16 (by omega) (by omega))) ?_
      refine RL_call rfl rfl (DoC_func en85 rfl) (data_c _ (by omega) (by omega) w) ?_
      rintro _ w85 ⟨rfl, hB⟩
      replace H := H.below hB
      refine ⟨_, rfl, ?_⟩
      refine RL_do rfl rfl (Do_move (v := .int _ _) rfl) ?_
      refine RL_do rfl rfl (Do_conv u3 u23 rfl (wrap_u16 (by omega) (by omega))) ?_
      refine RL_call rfl rfl (DoC_func en86 rfl) (odd_c _ x.toNat (by omega) (by omega) w85) ?_
      rintro _ w86 ⟨rfl, hB⟩
      replace H := H.below hB
      refine ⟨_, rfl, ?_⟩
      refine RL_do rfl rfl (Do_assign (v := .int _ _) rfl) ?_
      refine RL_do rfl rfl (Do_assign (v := .bool _) rfl) ?_
      refine RL_do rfl rfl (Do_assign rfl) ?_
      refine (RL_nil (thenQ_n (hK6 _ _ ?_)))
      refine (WP_ret (post3 (v1 := .int _ _) (v2 := .bool _) (v3 := .int _ _) rfl rfl rfl rfl ?_))
      exact ⟨by rw [dataR_2 (by omega), show decide (x.toNat ≤ 4095 ∧ oddN x.toNat) = decide (oddN x.toNat) from decide_eq_decide.2 ⟨fun h => h.2, fun h => ⟨by omega, h⟩⟩], H.kept⟩

/-- orangebox/orangeboxref1.Data -/
theorem DataRef_c (x : Int) (w : World) :
    Calls Tryd.prog 29 #[.int .i64 x] w fun e w' => e = .returned (.tuple #[.int .i64 (dataR x).1, .bool (dataR x).2.1, .int .i64 (dataR x).2.2]) ∧ Below w.heap.size w w' := by
  refine calls_of_WP (args := [.int .i64 x]) 15 Tryd.func29 rfl rfl rfl ?_
  have H := Sep.start [] w
  refine WP_seq_k fun K1 hK1 => ?_
  refine WP_region ?_
  refine RL_do rfl rfl (Do_assign rfl) ?_
  refine RL_do rfl rfl (Do_assign rfl) ?_
  refine RL_do rfl rfl (Do_assign rfl) ?_
  refine (RL_nil (thenQ_n (hK1 _ _ ?_)))
  refine WP_seq_k fun K2 hK2 => ?_
  refine WP_seq_k fun K3 hK3 => ?_
  refine WP_region ?_
  refine RL_do rfl rfl (Do_move (v := .int _ _) rfl) ?_
  refine RL_do rfl rfl (Do_lss rfl rfl) ?_
  first | refine RL_split rfl rfl rfl (fun c1 => ?_) (fun c1 => ?_) | refine RL_splitb rfl rfl rfl (fun c1 => ?_) (fun c1 => ?_)
  · skip
    refine RL_off rfl rfl ?_
    refine RL_off rfl rfl ?_
    refine RL_do rfl rfl (Do_pick_t (v := .bool _) rfl rfl) ?_
    refine (RL_nil (thenQ_n (hK3 _ _ ?_)))
    refine WP_ift rfl ?_
    refine WP_seq_k fun K4 hK4 => ?_
    refine WP_region ?_
    refine RL_do rfl rfl (Do_assign rfl) ?_
    refine RL_do rfl rfl (Do_assign rfl) ?_
    refine RL_do rfl rfl (Do_assign rfl) ?_
    refine (RL_nil (thenQ_n (hK4 _ _ ?_)))
    refine (WP_ret (thenQ_r (post3 (v1 := .int _ _) (v2 := .bool _) (v3 := .int _ _) rfl rfl rfl rfl ?_)))
    exact ⟨by rw [dataR_1 (by omega)], H.kept⟩
  · skip
    refine RL_do rfl rfl (Do_move (v := .int _ _) rfl) ?_
    refine RL_do rfl rfl (Do_gtr rfl rfl) ?_
    refine RL_do rfl rfl (Do_pick_f (v := .bool _) rfl rfl) ?_
    refine (RL_nil (thenQ_n (hK3 _ _ ?_)))
    first | refine WP_if rfl (fun c2 => ?_) (fun c2 => ?_) | refine WP_ifb rfl (fun c2 => ?_) (fun c2 => ?_)
    · skip
      refine WP_seq_k fun K5 hK5 => ?_
      refine WP_region ?_
      refine RL_do rfl rfl (Do_assign rfl) ?_
      refine RL_do rfl rfl (Do_assign rfl) ?_
      refine RL_do rfl rfl (Do_assign rfl) ?_
      refine (RL_nil (thenQ_n (hK5 _ _ ?_)))
      refine (WP_ret (thenQ_r (post3 (v1 := .int _ _) (v2 := .bool _) (v3 := .int _ _) rfl rfl rfl rfl ?_)))
      exact ⟨by rw [dataR_1 (by omega)], H.kept⟩
    · skip
      refine (WP_skip (thenQ_n (hK2 _ _ ?_)))
      refine WP_seq_k fun K6 hK6 => ?_
      refine WP_region ?_
      refine RL_do rfl rfl (Do_move (v := .int _ _) rfl) ?_
      refine RL_do rfl rfl (Do_rem rfl rfl (by omega) (by omega)) ?_
      refine RL_do rfl rfl (Do_move (v := .int _ _) rfl) ?_
      refine RL_call rfl rfl (DoC_func en87 rfl) (oddR_c _ x.toNat (by omega) (by omega) w) ?_
      rintro _ w87 ⟨rfl, hB⟩
      replace H := H.below hB
      refine ⟨_, rfl, ?_⟩
      refine RL_do rfl rfl (Do_assign (v := .int _ _) rfl) ?_
      refine RL_do rfl rfl (Do_assign (v := .bool _) rfl) ?_
      refine RL_do rfl rfl (Do_assign rfl) ?_
      refine (RL_nil (thenQ_n (hK6 _ _ ?_)))
      refine (WP_ret (post3 (v1 := .int _ _) (v2 := .bool _) (v3 := .int _ _) rfl rfl rfl rfl ?_))
      exact ⟨by rw [dataR_2 (by omega)], H.kept⟩

/-- orangebox/orangeboxref1.syncOf -/
theorem syncOf_c (x : Int) (n : Nat) (hx : x = n) (hn : n < 4194304) (w : World) :
    Calls Tryd.prog 88 #[.int .i64 x] w fun e w' => e = .returned (.int .i64 (wd tab (n % 4) : Nat)) ∧ Below w.heap.size w w' := by
  refine calls_of_WP (args := [.int .i64 x]) 7 Tryd.func88 rfl rfl rfl ?_
  have H := Sep.start [] w
  refine WP_seq_k fun K1 hK1 => ?_
  refine WP_region ?_
  refine RL_do rfl rfl (Do_assign rfl) ?_
  refine (RL_nil (thenQ_n (hK1 _ _ ?_)))
  refine WP_seq_k fun K2 hK2 => ?_
  refine WP_region ?_
  refine RL_do rfl rfl (Do_build (bt128 _ _ _ _ )) ?_
  refine RL_do rfl rfl (Do_move (v := .int _ _) rfl) ?_
  refine RL_do rfl rfl (Do_rem rfl rfl (by omega) (by omega)) ?_
  refine RL_do rfl rfl (Do_index1 u128 one3 sz3 rfl rfl (by omega) (by omega) (by rw [show (x % 4).toNat = n % 4 by omega]; exact nats_get (l := tab) (by show _ < 4; omega))) ?_
  refine RL_do rfl rfl (Do_assign (v := .int _ _) rfl) ?_
  refine (RL_nil (thenQ_n (hK2 _ _ ?_)))
  refine (WP_ret (post1 (v1 := .int _ _) rfl rfl ?_))
  exact ⟨rfl, H.kept⟩

/-- orangebox/frame.Sync -/
theorem Sync_c (x : Int) (w : World) (hg : Cells w ⟨0, 0, none⟩ (wds tab)) :
    Calls Tryd.prog 30 #[.int .i64 x] w fun e w' => e = .returned (.tuple #[.int .i64 (syncR x).1, .int .i64 (syncR x).2]) ∧ Below w.heap.size w w' := by
  refine calls_of_WP (args := [.int .i64 x]) 15 Tryd.func30 rfl rfl rfl ?_
  have H := Sep.start [] w
  refine WP_seq_k fun K1 hK1 => ?_
  refine WP_region ?_
  refine RL_do rfl rfl (Do_assign rfl) ?_
  refine RL_do rfl rfl (Do_assign rfl) ?_
  refine (RL_nil (thenQ_n (hK1 _ _ ?_)))
  refine WP_seq_k fun K2 hK2 => ?_
  refine WP_seq_k fun K3 hK3 => ?_
  refine WP_region ?_
  refine RL_do rfl rfl (Do_move (v := .int _ _) rfl) ?_
  refine RL_do rfl rfl (Do_lss rfl rfl) ?_
  first | refine RL_split rfl rfl rfl (fun c1 => ?_) (fun c1 => ?_) | refine RL_splitb rfl rfl rfl (fun c1 => ?_) (fun c1 => ?_)
  · skip
    refine RL_off rfl rfl ?_
    refine RL_off rfl rfl ?_
    refine RL_do rfl rfl (Do_pick_t (v := .bool _) rfl rfl) ?_
    refine (RL_nil (thenQ_n (hK3 _ _ ?_)))
    refine WP_ift rfl ?_
    refine WP_seq_k fun K4 hK4 => ?_
    refine WP_region ?_
    refine RL_do rfl rfl (Do_assign rfl) ?_
    refine RL_do rfl rfl (Do_assign rfl) ?_
    refine (RL_nil (thenQ_n (hK4 _ _ ?_)))
    refine (WP_ret (thenQ_r (post2 (v1 := .int _ _) (v2 := .int _ _) rfl rfl rfl ?_)))
    exact ⟨by rw [syncR_1 (by omega)], H.kept⟩
  · skip
    refine RL_do rfl rfl (Do_move (v := .int _ _) rfl) ?_
    refine RL_do rfl rfl (Do_geq rfl rfl) ?_
    refine RL_do rfl rfl (Do_pick_f (v := .bool _) rfl rfl) ?_
    refine (RL_nil (thenQ_n (hK3 _ _ ?_)))
    first | refine WP_if rfl (fun c2 => ?_) (fun c2 => ?_) | refine WP_ifb rfl (fun c2 => ?_) (fun c2 => ?_)
    · skip
      refine WP_seq_k fun K5 hK5 => ?_
      refine WP_region ?_
      refine RL_do rfl rfl (Do_assign rfl) ?_
      refine RL_do rfl rfl (Do_assign rfl) ?_
      refine (RL_nil (thenQ_n (hK5 _ _ ?_)))
      refine (WP_ret (thenQ_r (post2 (v1 := .int _ _) (v2 := .int _ _) rfl rfl rfl ?_)))
      exact ⟨by rw [syncR_1 (by omega)], H.kept⟩
    · skip
      refine (WP_skip (thenQ_n (hK2 _ _ ?_)))
      refine WP_seq_k fun K6 hK6 => ?_
      refine WP_region ?_
      have q1 := tab_lt (x.toNat % 4)
      refine RL_do rfl rfl (Do_move (v := .int _ _) rfl) ?_
      refine RL_do rfl rfl (Do_rem rfl rfl (by omega) (by omega)) ?_
      refine RL_do rfl rfl (Do_idxa1 u111 sz23 rfl rfl (by omega) (by omega) (by omega : _ = x.toNat % 4) (by first | exact Nat.zero_add _ | rfl)) ?_
      refine RL_do rfl rfl (Do_load one23 rfl (Cells.get0 (hg.only (Sep.only H) (by simp)) (i := x.toNat % 4) (wds_get (by show _ < 4; omega)))) ?_
      refine RL_do rfl rfl (Do_conv u23 u3 rfl (wrap_i64 (by omega) (by omega))) ?_
      refine RL_do rfl rfl (Do_assign (v := .int _ _) rfl) ?_
      refine RL_do rfl rfl (Do_assign rfl) ?_
      refine (RL_nil (thenQ_n (hK6 _ _ ?_)))
      refine (WP_ret (post2 (v1 := .int _ _) (v2 := .int _ _) rfl rfl rfl ?_))
      exact ⟨by rw [syncR_2 (by omega)], H.kept⟩

/-- orangebox/orangeboxref1.Sync -/
theorem SyncRef_c (x : Int) (w : World) :
    Calls Tryd.prog 31 #[.int .i64 x] w fun e w' => e = .returned (.tuple #[.int .i64 (syncR x).1, .int .i64 (syncR x).2]) ∧ Below w.heap.size w w' := by
  refine calls_of_WP (args := [.int .i64 x]) 12 Tryd.func31 rfl rfl rfl ?_
  have H := Sep.start [] w
  refine WP_seq_k fun K1 hK1 => ?_
  refine WP_region ?_
  refine RL_do rfl rfl (Do_assign rfl) ?_
  refine RL_do rfl rfl (Do_assign rfl) ?_
  refine (RL_nil (thenQ_n (hK1 _ _ ?_)))
  refine WP_seq_k fun K2 hK2 => ?_
  refine WP_seq_k fun K3 hK3 => ?_
  refine WP_region ?_
  refine RL_do rfl rfl (Do_move (v := .int _ _) rfl) ?_
  refine RL_do rfl rfl (Do_lss rfl rfl) ?_
  first | refine RL_split rfl rfl rfl (fun c1 => ?_) (fun c1 => ?_) | refine RL_splitb rfl rfl rfl (fun c1 => ?_) (fun c1 => ?_)
  · skip
    refine RL_off rfl rfl ?_
    refine RL_off rfl rfl ?_
    refine RL_do rfl rfl (Do_pick_t (v := .bool _) rfl rfl) ?_
    refine (RL_nil (thenQ_n (hK3 _ _ ?_)))
    refine WP_ift rfl ?_
    refine WP_seq_k fun K4 hK4 => ?_
    refine WP_region ?_
    refine RL_do rfl rfl (Do_assign rfl) ?_
    refine RL_do rfl rfl (Do_assign rfl) ?_
    refine (RL_nil (thenQ_n (hK4 _ _ ?_)))
    refine (WP_ret (thenQ_r (post2 (v1 := .int _ _) (v2 := .int _ _) rfl rfl rfl ?_)))
    exact ⟨by rw [syncR_1 (by omega)], H.kept⟩
  · skip
    refine RL_do rfl rfl (Do_move (v := .int _ _) rfl) ?_
    refine RL_do rfl rfl (Do_geq rfl rfl) ?_
    refine RL_do rfl rfl (Do_pick_f (v := .bool _) rfl rfl) ?_
    refine (RL_nil (thenQ_n (hK3 _ _ ?_)))
    first | refine WP_if rfl (fun c2 => ?_) (fun c2 => ?_) | refine WP_ifb rfl (fun c2 => ?_) (fun c2 => ?_)
    · skip
      refine WP_seq_k fun K5 hK5 => ?_
      refine WP_region ?_
      refine RL_do rfl rfl (Do_assign rfl) ?_
      refine RL_do rfl rfl (Do_assign rfl) ?_
      refine (RL_nil (thenQ_n (hK5 _ _ ?_)))
      refine (WP_ret (thenQ_r (post2 (v1 := .int _ _) (v2 := .int _ _) rfl rfl rfl ?_)))
      exact ⟨by rw [syncR_1 (by omega)], H.kept⟩
    · skip
      refine (WP_skip (thenQ_n (hK2 _ _ ?_)))
      refine WP_seq_k fun K6 hK6 => ?_
      refine WP_region ?_
      refine RL_do rfl rfl (Do_move (v := .int _ _) rfl) ?_
      refine RL_call rfl rfl (DoC_func en88 rfl) (syncOf_c _ x.toNat (by omega) (by omega) w) ?_
      rintro _ w88 ⟨rfl, hB⟩
      replace H := H.below hB
      refine ⟨_, rfl, ?_⟩
      refine RL_do rfl rfl (Do_assign (v := .int _ _) rfl) ?_
      refine RL_do rfl rfl (Do_assign rfl) ?_
      refine (RL_nil (thenQ_n (hK6 _ _ ?_)))
      refine (WP_ret (post2 (v1 := .int _ _) (v2 := .int _ _) rfl rfl rfl ?_))
      exact ⟨by rw [syncR_2 (by omega)], H.kept⟩
end Go.Proofs.YtafgmocdnjdmoaaDoor
