/- Walks of functions: what each computes, for every argument; no condition but those that stand in the statements. -/
import Derived.Test.YtafgmocdnjdmoaaDoorRows
import Derived.Test.YtafgmocdnjdmoaaDoorC17
namespace Go.Proofs.YtafgmocdnjdmoaaDoor
open Go.RowKit Go.OB Go.Fr1
/-- orangebox/orangeboxref1.ClearFrame -/
theorem ClearRef_c (v : Value) (xs : List Nat) (m : Nat) (hm : xs.length = m) (hx : Byte xs) (hM : m ≤ 140737488351232) (a : Int) (w : World) (hr : SlR w v 1 m (bys xs)) :
    Calls Tryd.prog 42 #[v, .int .i64 a] w fun e w' => ∃ v', e = .returned (.tuple #[v', .int .i64 (placeN m a 96)]) ∧ SlR w' v' 1 m (bys (clX xs m a)) ∧ (∀ b, sblk v' = some b → sblk v = some b ∨ w.heap.size ≤ b) ∧ Below w.heap.size w w' := by
  refine calls_of_WP (args := [v, .int .i64 a]) 30 Tryd.func42 rfl rfl rfl ?_
  obtain ⟨va, vc, rfl⟩ := hr.shape
  have H := Sep.start [] w
  refine WP_seq_k fun K1 hK1 => ?_
  refine WP_region ?_
  refine RL_do rfl rfl (Do_assign rfl) ?_
  refine RL_do rfl rfl (Do_assign rfl) ?_
  refine (RL_nil (thenQ_n (hK1 _ _ ?_)))
  refine WP_seq_k fun K2 hK2 => ?_
  refine WP_seq_k fun K3 hK3 => ?_
  refine WP_region ?_
  refine RL_do rfl rfl (Do_move (v := .slice _ _ _) rfl) ?_
  refine RL_do rfl rfl (Do_move (v := .int _ _) rfl) ?_
  refine RL_call rfl rfl (DoC_func en73 rfl) (Place_c va m vc a 96 (by omega) (by omega) (by omega) w) ?_
  rintro _ w187 ⟨rfl, hB⟩
  replace H := H.below hB
  refine ⟨_, rfl, ?_⟩
  refine RL_do rfl rfl (Do_assign (v := .int _ _) rfl) ?_
  refine (RL_nil (thenQ_n (hK3 _ _ ?_)))
  refine WP_seq_k fun K4 hK4 => ?_
  refine WP_region ?_
  refine RL_do rfl rfl (Do_move (v := .int _ _) rfl) ?_
  refine RL_do rfl rfl (Do_neq rfl rfl) ?_
  refine (RL_nil (thenQ_n (hK4 _ _ ?_)))
  first | refine WP_if rfl (fun c1 => ?_) (fun c1 => ?_) | refine WP_ifb rfl (fun c1 => ?_) (fun c1 => ?_)
  · skip
    refine WP_seq_k fun K5 hK5 => ?_
    refine WP_region ?_
    refine RL_do rfl rfl (Do_move (v := .slice _ _ _) rfl) ?_
    refine RL_do rfl rfl (Do_move (v := .int _ _) rfl) ?_
    refine RL_do rfl rfl (Do_assign (v := .slice _ _ _) rfl) ?_
    refine RL_do rfl rfl (Do_assign (v := .int _ _) rfl) ?_
    refine (RL_nil (thenQ_n (hK5 _ _ ?_)))
    refine (WP_ret (thenQ_r (post2 (v1 := .slice _ _ _) (v2 := .int _ _) rfl rfl rfl ?_)))
    exact ⟨_, rfl, by rw [clX_1 (by omega)]; exact (hr.only (Sep.only H) (by simp)), fun b h => .inl h, H.kept⟩
  · skip
    refine (WP_skip (thenQ_n (hK2 _ _ ?_)))
    refine WP_seq_k fun K6 hK6 => ?_
    refine WP_region ?_
    refine RL_ex rfl rfl (Ex_ms (n := 96) (cs := List.replicate 96 (.int .u8 0)) u22 el5 rfl rfl (by decide) (by decide) (by kernel_rfl)) ?_
    rintro _ w188 ⟨b38, rfl, hA⟩
    replace H := H.alloc hA
    replace H := H.conv (i := 0) rfl (cs' := bys (clTo (List.replicate 96 0) 0 0)) rfl
    refine RL_do rfl rfl (Do_assign (v := .slice _ _ _) rfl) ?_
    refine (RL_nil (thenQ_n (hK6 _ _ ?_)))
    refine WP_seq_k fun K7 hK7 => ?_
    refine WP_seq_k fun K8 hK8 => ?_
    refine WP_region ?_
    refine RL_do rfl rfl (Do_move (v := .slice _ _ _) rfl) ?_
    refine RL_do rfl rfl (Do_len u22 rfl) ?_
    refine RL_do rfl rfl (Do_move rfl) ?_
    refine (RL_nil (thenQ_n (hK8 _ _ ?_)))
    refine WP_block ?_
    refine WP_loopS [8, 19, 20, 21, 22, 23, 24, 25] (fun (g : Nat) => [(19, .int .i64 (g : Nat))]) (fun (g : Nat) wl => Sep [] w wl [.blk b38 (bys (clTo (List.replicate 96 0) 0 g)) 5] ∧ g ≤ 96) (fun (g : Nat) => 96 - g) (0) (Sl_cons rfl Sl_nil) ⟨H, by decide⟩ ?_
    clear H
    rintro k ρ w189 ⟨H, hk⟩
    refine WP_seq_k fun K9 hK9 => ?_
    refine WP_region ?_
    refine RL_do rfl rfl (Do_lss rfl rfl) ?_
    refine (RL_nil (thenQ_n (hK9 _ _ ?_)))
    refine WP_seq_k fun K10 hK10 => ?_
    first | refine WP_if rfl (fun c2 => ?_) (fun c2 => ?_) | refine WP_ifb rfl (fun c2 => ?_) (fun c2 => ?_)
    · skip
      refine (WP_skip (thenQ_n (hK10 _ _ ?_)))
      refine WP_seq_k fun K11 hK11 => ?_
      refine WP_block ?_
      refine WP_seq_k fun K12 hK12 => ?_
      refine WP_region ?_
      refine RL_do rfl rfl (Do_move (v := .int _ _) rfl) ?_
      refine RL_do rfl rfl (Do_assign (v := .int _ _) rfl) ?_
      refine (RL_nil (thenQ_n (hK12 _ _ ?_)))
      refine WP_region ?_
      refine RL_do rfl rfl (Do_move (v := .slice _ _ _) rfl) ?_
      refine RL_do rfl rfl (Do_move (v := .int _ _) rfl) ?_
      refine RL_do rfl rfl (Do_idx1 u22 sz5 rfl rfl (by omega) (by omega) (by omega : _ = k) (by first | exact Nat.zero_add _ | rfl)) ?_
      refine RL_exU rfl (Ex_store1 sz5 rfl rfl rfl (Sep.blk (i := 0) H rfl) (by rw [bys_length, clTo_len, List.length_replicate]; omega)) ?_
      rintro w190 hW
      replace H := H.wr (i := 0) rfl hW
      replace H := H.conv (i := 0) rfl ((bys_setI _ k (n := 255) rfl).trans (congrArg (fun q => bys ((clTo (List.replicate 96 0) 0 k).set q 255)) (Nat.zero_add k).symm))
      refine (RL_nil (blockQ_n (thenQ_n (hK11 _ _ ?_))))
      refine WP_region ?_
      refine RL_do rfl rfl (Do_add rfl rfl (wrap_i64 (by omega) (by omega))) ?_
      refine RL_do rfl rfl (Do_move (v := .int _ _) rfl) ?_
      refine (RL_nil (thenQ_n (And.intro ?_ ?_)))
      · repeat' (first | with_reducible exact Fr_refl | refine Fr_upd rfl ?_ | refine Fr_over rfl rfl ?_)
      · refine ⟨k + 1, (Sl_cons (by first | rfl | exact congrArg (Value.int _) (by omega)) Sl_nil), ?_, ?_⟩
        · exact ⟨H, by omega⟩
        · simp; omega
    · skip
      refine (WP_exit (thenQ_x (thenQ_x (blockQ_eq (thenQ_n (hK7 _ _ ?_))))))
      refine WP_seq_k fun K13 hK13 => ?_
      refine WP_region ?_
      (obtain rfl : k = 96 := by omega)
      replace H := H.conv (i := 0) rfl (congrArg bys (clTo_all rfl))
      have q0 := placeN_0 (show placeN m a 96 = 0 by omega)
      refine RL_do rfl rfl (Do_move (v := .slice _ _ _) rfl) ?_
      refine RL_do rfl rfl (Do_move (v := .int _ _) rfl) ?_
      refine RL_do rfl rfl (Do_move (v := .slice _ _ _) rfl) ?_
      refine RL_call rfl rfl (DoC_func en75 rfl) (with_c _ xs m hm hx hM _ a.toNat (by omega) _ 96 FFs FFs_len (by omega) (by omega) w189 (hr.only (Sep.only H) (by simp)) (Blk.slr (Sep.blk (i := 0) H rfl) 96 1 (by rw [bys_length, FFs_len]) (by decide))) ?_
      rintro _ w191 ⟨vw, rfl, hv, hB⟩
      replace H := H.got hB hv
      refine ⟨_, rfl, ?_⟩
      refine RL_do rfl rfl (Do_assign (v := vw) rfl) ?_
      refine RL_do rfl rfl (Do_assign rfl) ?_
      refine (RL_nil (thenQ_n (hK13 _ _ ?_)))
      refine (WP_ret (post2 (v1 := vw) (v2 := .int _ _) rfl rfl rfl ?_))
      exact ⟨vw, by rw [show placeN m a 96 = 0 by omega], by rw [clX_2 (by omega)]; exact H.slr (i := 1) rfl, fun b h => .inr (owns_ge (H.give (i := 1) rfl) b (ob_mem.2 h)).1, H.kept⟩

/-- orangebox/orangeboxref1.SwapFrames -/
theorem SwapRef_c (v : Value) (xs : List Nat) (m : Nat) (hm : xs.length = m) (hx : Byte xs) (hM : m ≤ 140737488351232) (a t : Int) (w : World) (hr : SlR w v 1 m (bys xs)) :
    Calls Tryd.prog 40 #[v, .int .i64 a, .int .i64 t] w fun e w' => ∃ v', e = .returned (.tuple #[v', .int .i64 (swapE m a t)]) ∧ SlR w' v' 1 m (bys (swapX xs m a t)) ∧ (∀ b, sblk v' = some b → sblk v = some b ∨ w.heap.size ≤ b) ∧ Below w.heap.size w w' := by
  refine calls_of_WP (args := [v, .int .i64 a, .int .i64 t]) 53 Tryd.func40 rfl rfl rfl ?_
  obtain ⟨va, vc, rfl⟩ := hr.shape
  have hin := hr.inner
  have H := Sep.start [] w
  refine WP_seq_k fun K1 hK1 => ?_
  refine WP_region ?_
  refine RL_do rfl rfl (Do_assign rfl) ?_
  refine RL_do rfl rfl (Do_assign rfl) ?_
  refine (RL_nil (thenQ_n (hK1 _ _ ?_)))
  refine WP_seq_k fun K2 hK2 => ?_
  refine WP_seq_k fun K3 hK3 => ?_
  refine WP_region ?_
  refine RL_do rfl rfl (Do_move (v := .int _ _) rfl) ?_
  refine RL_do rfl rfl (Do_move (v := .int _ _) rfl) ?_
  refine RL_ex rfl rfl (Ex_bs u46 el3 (by decide) (by decide) (fillB_two (v := .int _ _) (u := .int _ _) rfl rfl)) ?_
  rintro _ w192 ⟨b39, rfl, hA⟩
  replace H := H.alloc hA
  refine RL_do rfl rfl (Do_len u46 rfl) ?_
  refine RL_do rfl rfl (Do_move rfl) ?_
  refine (RL_nil (thenQ_n (hK3 _ _ ?_)))
  refine WP_block ?_
  refine WP_loopS [6, 7, 9, 10, 15, 16, 17, 18, 19, 20, 21, 22, 23, 24, 25, 26] (fun (g : Nat) => [(15, .int .i64 (g : Nat))]) (fun (g : Nat) wl => Sep [] w wl [.blk b39 [.int .i64 a, .int .i64 t] 3] ∧ g ≤ 2 ∧ (0 < g → placeN m a 96 = 0) ∧ (1 < g → placeN m t 96 = 0)) (fun (g : Nat) => 2 - g) (0) (Sl_cons rfl Sl_nil) ⟨H, ⟨by decide, fun h => by omega, fun h => by omega⟩⟩ ?_
  clear H
  rintro k ρ w193 ⟨H, ⟨hk, ha, ht⟩⟩
  refine WP_seq_k fun K4 hK4 => ?_
  refine WP_region ?_
  refine RL_do rfl rfl (Do_lss rfl rfl) ?_
  refine (RL_nil (thenQ_n (hK4 _ _ ?_)))
  refine WP_seq_k fun K5 hK5 => ?_
  first | refine WP_if rfl (fun c1 => ?_) (fun c1 => ?_) | refine WP_ifb rfl (fun c1 => ?_) (fun c1 => ?_)
  · skip
    refine (WP_skip (thenQ_n (hK5 _ _ ?_)))
    refine WP_seq_k fun K6 hK6 => ?_
    refine WP_block ?_
    refine WP_seq_k fun K7 hK7 => ?_
    refine WP_region ?_
    refine RL_do rfl rfl (Do_idx1 u46 sz3 rfl rfl (by omega) (by omega) (by omega : _ = k) (by first | exact Nat.zero_add _ | rfl)) ?_
    refine RL_do rfl rfl (Do_load one3 rfl (Blk.cell (Sep.blk (i := 0) H rfl) (pick2_get a t (by omega)))) ?_
    refine RL_do rfl rfl (Do_assign (v := .int _ _) rfl) ?_
    refine (RL_nil (thenQ_n (hK7 _ _ ?_)))
    refine WP_seq_k fun K8 hK8 => ?_
    refine WP_region ?_
    refine RL_do rfl rfl (Do_move (v := .slice _ _ _) rfl) ?_
    refine RL_do rfl rfl (Do_move (v := .int _ _) rfl) ?_
    refine RL_call rfl rfl (DoC_func en73 rfl) (Place_c va m vc _ 96 (by omega) (by omega) (by omega) w193) ?_
    rintro _ w194 ⟨rfl, hB⟩
    replace H := H.below hB
    refine ⟨_, rfl, ?_⟩
    refine RL_do rfl rfl (Do_assign (v := .int _ _) rfl) ?_
    refine (RL_nil (thenQ_n (hK8 _ _ ?_)))
    refine WP_seq_k fun K9 hK9 => ?_
    refine WP_region ?_
    refine RL_do rfl rfl (Do_move (v := .int _ _) rfl) ?_
    refine RL_do rfl rfl (Do_neq rfl rfl) ?_
    refine (RL_nil (thenQ_n (hK9 _ _ ?_)))
    first | refine WP_if rfl (fun c2 => ?_) (fun c2 => ?_) | refine WP_ifb rfl (fun c2 => ?_) (fun c2 => ?_)
    · skip
      refine WP_seq_k fun K10 hK10 => ?_
      refine WP_region ?_
      refine RL_do rfl rfl (Do_move (v := .slice _ _ _) rfl) ?_
      refine RL_do rfl rfl (Do_move (v := .int _ _) rfl) ?_
      refine RL_do rfl rfl (Do_assign (v := .slice _ _ _) rfl) ?_
      refine RL_do rfl rfl (Do_assign (v := .int _ _) rfl) ?_
      refine (RL_nil (thenQ_n (hK10 _ _ ?_)))
      refine (WP_ret (blockQ_r (thenQ_r (thenQ_r (blockQ_r (thenQ_r (post2 (v1 := .slice _ _ _) (v2 := .int _ _) rfl rfl rfl ?_)))))))
      have q := swapE_at (by omega) ha (show placeN m (pick2 a t k) 96 ≠ 0 by assumption)
      exact ⟨_, by rw [q], by rw [swapX_1 (by omega)]; exact (hr.only (Sep.only H) (by simp)), fun b h => .inl h, H.kept⟩
    · skip
      refine (WP_skip (blockQ_n (thenQ_n (hK6 _ _ ?_))))
      refine WP_region ?_
      refine RL_do rfl rfl (Do_add rfl rfl (wrap_i64 (by omega) (by omega))) ?_
      refine RL_do rfl rfl (Do_move (v := .int _ _) rfl) ?_
      have pz : placeN m (pick2 a t k) 96 = 0 := by omega
      refine (RL_nil (thenQ_n (And.intro ?_ ?_)))
      · repeat' (first | with_reducible exact Fr_refl | refine Fr_upd rfl ?_ | refine Fr_over rfl rfl ?_)
      · refine ⟨k + 1, (Sl_cons (by first | rfl | exact congrArg (Value.int _) (by omega)) Sl_nil), ?_, ?_⟩
        · exact ⟨H, by omega, swap_inv (by omega) ha pz⟩
        · simp; omega
  · skip
    refine (WP_exit (thenQ_x (thenQ_x (blockQ_eq (thenQ_n (hK2 _ _ ?_))))))
    refine WP_seq_k fun K11 hK11 => ?_
    refine WP_seq_k fun K12 hK12 => ?_
    refine WP_region ?_
    (obtain rfl : k = 2 := by omega)
    have pa := ha (by decide)
    have pt := ht (by decide)
    have q0 := placeN_0 pa
    have q1 := placeN_0 pt
    refine RL_do rfl rfl (Do_move (v := .int _ _) rfl) ?_
    refine RL_do rfl rfl (Do_move (v := .int _ _) rfl) ?_
    refine RL_do rfl rfl (Do_sub rfl rfl (wrap_i64 (by omega) (by omega))) ?_
    refine RL_do rfl rfl (Do_lss rfl rfl) ?_
    first | refine RL_split rfl rfl rfl (fun c3 => ?_) (fun c3 => ?_) | refine RL_splitb rfl rfl rfl (fun c3 => ?_) (fun c3 => ?_)
    · skip
      refine RL_do rfl rfl (Do_move (v := .int _ _) rfl) ?_
      refine RL_do rfl rfl (Do_move (v := .int _ _) rfl) ?_
      refine RL_do rfl rfl (Do_sub rfl rfl (wrap_i64 (by omega) (by omega))) ?_
      refine RL_do rfl rfl (Do_lss rfl rfl) ?_
      refine RL_do rfl rfl (Do_pick_t (v := .bool _) rfl rfl) ?_
      refine (RL_nil (thenQ_n (hK12 _ _ ?_)))
      first | refine WP_if rfl (fun c4 => ?_) (fun c4 => ?_) | refine WP_ifb rfl (fun c4 => ?_) (fun c4 => ?_)
      · skip
        refine WP_seq_k fun K13 hK13 => ?_
        refine WP_region ?_
        refine RL_do rfl rfl (Do_move (v := .slice _ _ _) rfl) ?_
        refine RL_do rfl rfl (Do_assign (v := .slice _ _ _) rfl) ?_
        refine RL_do rfl rfl (Do_assign rfl) ?_
        refine (RL_nil (thenQ_n (hK13 _ _ ?_)))
        refine (WP_ret (thenQ_r (post2 (v1 := .slice _ _ _) (v2 := .int _ _) rfl rfl rfl ?_)))
        exact ⟨_, by rw [swapE_3 (by omega) (by omega) (by omega)], by rw [swapX_1 (by rw [swapE_3 (by omega) (by omega) (by omega)]; decide)]; exact (hr.only (Sep.only H) (by simp)), fun b h => .inl h, H.kept⟩
      · skip
        refine (WP_skip (thenQ_n (hK11 _ _ ?_)))
        refine WP_seq_k fun K14 hK14 => ?_
        refine WP_mix [.pure, .pure, .pure, .pure, .pure, .pure, .pure, .eff, .pure, .pure, .pure, .pure, .pure, .pure, .eff, .pure, .pure] mixed (by kernel_rfl) (by kernel_rfl) (by kernel_rfl) ?_
        have q3 : ¬ (a - t < 96 ∧ t - a < 96) := by omega
        obtain ⟨b, o, rfl⟩ := hin.2.2 (by omega)
        have k1 : (cut xs a.toNat 96).length = 96 := cut_len (by omega)
        have k2 : (cut xs t.toNat 96).length = 96 := cut_len (by omega)
        have k3 : (lay xs a.toNat (cut xs t.toNat 96)).length = m := by rw [lay_len (by omega), hm]
        have k4 : Byte (lay xs a.toNat (cut xs t.toNat 96)) := lay_byte hx (cut_byte hx) (by omega)
        refine XL_pure rfl rfl rfl (fun w' => Do_move (v := .slice _ _ _) rfl) ?_
        refine XL_pure rfl rfl rfl (fun w' => Do_move (v := .int _ _) rfl) ?_
        refine XL_pure rfl rfl rfl (fun w' => Do_move (v := .slice _ _ _) rfl) ?_
        refine XL_pure rfl rfl rfl (fun w' => Do_move (v := .int _ _) rfl) ?_
        refine XL_pure rfl rfl rfl (fun w' => Do_move (v := .int _ _) rfl) ?_
        refine XL_pure rfl rfl rfl (fun w' => Do_add rfl rfl (wrap_i64 (by omega) (by omega))) ?_
        refine XL_pure rfl rfl rfl (fun w' => Do_slice_in u22 sz5 (i := t.toNat) (j := 96) rfl rfl rfl (by omega) (by omega) (by omega) (by omega) (by rw [Nat.mul_one])) ?_
        refine XL_effC rfl rfl rfl (fun w' hw' => DoC_func en75 rfl) (fun w' hw' => with_c _ xs m hm hx hM _ a.toNat (by omega) _ 96 (cut xs t.toNat 96) k2 (by omega) (by omega) w' (hr.only (Sep.only (Sep.sees H hw')) (by simp)) ((hr.only (Sep.only (Sep.sees H hw')) (by simp)).cutb t.toNat 96 (by omega) (by omega))) ?_
        rintro w' _ w195 hw' ⟨vw, rfl, hv, hB⟩
        replace H := Sep.sees H hw'
        replace H := H.got hB hv
        refine ⟨_, rfl, ?_⟩
        refine XL_pure rfl rfl rfl (fun w' => Do_move (v := .int _ _) rfl) ?_
        refine XL_pure rfl rfl rfl (fun w' => Do_move (v := .slice _ _ _) rfl) ?_
        refine XL_pure rfl rfl rfl (fun w' => Do_move (v := .int _ _) rfl) ?_
        refine XL_pure rfl rfl rfl (fun w' => Do_move (v := .int _ _) rfl) ?_
        refine XL_pure rfl rfl rfl (fun w' => Do_add rfl rfl (wrap_i64 (by omega) (by omega))) ?_
        refine XL_pure rfl rfl rfl (fun w' => Do_slice_in u22 sz5 (i := a.toNat) (j := 96) rfl rfl rfl (by omega) (by omega) (by omega) (by omega) (by rw [Nat.mul_one])) ?_
        refine XL_effC rfl rfl rfl (fun w' hw' => DoC_func en75 rfl) (fun w' hw' => with_c _ (lay xs a.toNat (cut xs t.toNat 96)) m k3 k4 hM _ t.toNat (by omega) _ 96 (cut xs a.toNat 96) k1 (by omega) (by omega) w' (Sep.slr (i := 1) (Sep.sees H hw') rfl) ((hr.only (Sep.only (Sep.sees H hw')) (by simp)).cutb a.toNat 96 (by omega) (by omega))) ?_
        rintro w' _ w196 hw' ⟨vx, rfl, hv2, hB⟩
        replace H := Sep.sees H hw'
        replace H := H.got hB hv2
        refine ⟨_, rfl, ?_⟩
        refine XL_pure rfl rfl rfl (fun w' => Do_assign (v := vx) rfl) ?_
        refine XL_pure rfl rfl rfl (fun w' => Do_assign rfl) ?_
        refine XL_nil fun w197 hS => ?_
        replace H := H.sees hS
        refine (thenQ_n (hK14 _ _ ?_))
        refine (WP_ret (post2 (v1 := vx) (v2 := .int _ _) rfl rfl rfl ?_))
        have q := swapE_4 (m := m) (show ¬ placeN m a 96 ≠ 0 by omega) (show ¬ placeN m t 96 ≠ 0 by omega) q3
        exact ⟨vx, by rw [q], by rw [swapX_2 q]; exact H.slr (i := 2) rfl, fun b h => .inr (owns_ge (H.give (i := 2) rfl) b (ob_mem.2 h)).1, H.kept⟩
    · skip
      refine RL_off rfl rfl ?_
      refine RL_off rfl rfl ?_
      refine RL_off rfl rfl ?_
      refine RL_off rfl rfl ?_
      refine RL_do rfl rfl (Do_pick_f (v := .bool _) rfl rfl) ?_
      refine (RL_nil (thenQ_n (hK12 _ _ ?_)))
      refine WP_iff rfl ?_
      refine (WP_skip (thenQ_n (hK11 _ _ ?_)))
      refine WP_seq_k fun K15 hK15 => ?_
      refine WP_mix [.pure, .pure, .pure, .pure, .pure, .pure, .pure, .eff, .pure, .pure, .pure, .pure, .pure, .pure, .eff, .pure, .pure] mixed (by kernel_rfl) (by kernel_rfl) (by kernel_rfl) ?_
      have q3 : ¬ (a - t < 96 ∧ t - a < 96) := by omega
      obtain ⟨b, o, rfl⟩ := hin.2.2 (by omega)
      have k1 : (cut xs a.toNat 96).length = 96 := cut_len (by omega)
      have k2 : (cut xs t.toNat 96).length = 96 := cut_len (by omega)
      have k3 : (lay xs a.toNat (cut xs t.toNat 96)).length = m := by rw [lay_len (by omega), hm]
      have k4 : Byte (lay xs a.toNat (cut xs t.toNat 96)) := lay_byte hx (cut_byte hx) (by omega)
      refine XL_pure rfl rfl rfl (fun w' => Do_move (v := .slice _ _ _) rfl) ?_
      refine XL_pure rfl rfl rfl (fun w' => Do_move (v := .int _ _) rfl) ?_
      refine XL_pure rfl rfl rfl (fun w' => Do_move (v := .slice _ _ _) rfl) ?_
      refine XL_pure rfl rfl rfl (fun w' => Do_move (v := .int _ _) rfl) ?_
      refine XL_pure rfl rfl rfl (fun w' => Do_move (v := .int _ _) rfl) ?_
      refine XL_pure rfl rfl rfl (fun w' => Do_add rfl rfl (wrap_i64 (by omega) (by omega))) ?_
      refine XL_pure rfl rfl rfl (fun w' => Do_slice_in u22 sz5 (i := t.toNat) (j := 96) rfl rfl rfl (by omega) (by omega) (by omega) (by omega) (by rw [Nat.mul_one])) ?_
      refine XL_effC rfl rfl rfl (fun w' hw' => DoC_func en75 rfl) (fun w' hw' => with_c _ xs m hm hx hM _ a.toNat (by omega) _ 96 (cut xs t.toNat 96) k2 (by omega) (by omega) w' (hr.only (Sep.only (Sep.sees H hw')) (by simp)) ((hr.only (Sep.only (Sep.sees H hw')) (by simp)).cutb t.toNat 96 (by omega) (by omega))) ?_
      rintro w' _ w198 hw' ⟨vw, rfl, hv, hB⟩
      replace H := Sep.sees H hw'
      replace H := H.got hB hv
      refine ⟨_, rfl, ?_⟩
      refine XL_pure rfl rfl rfl (fun w' => Do_move (v := .int _ _) rfl) ?_
      refine XL_pure rfl rfl rfl (fun w' => Do_move (v := .slice _ _ _) rfl) ?_
      refine XL_pure rfl rfl rfl (fun w' => Do_move (v := .int _ _) rfl) ?_
      refine XL_pure rfl rfl rfl (fun w' => Do_move (v := .int _ _) rfl) ?_
      refine XL_pure rfl rfl rfl (fun w' => Do_add rfl rfl (wrap_i64 (by omega) (by omega))) ?_
      refine XL_pure rfl rfl rfl (fun w' => Do_slice_in u22 sz5 (i := a.toNat) (j := 96) rfl rfl rfl (by omega) (by omega) (by omega) (by omega) (by rw [Nat.mul_one])) ?_
      refine XL_effC rfl rfl rfl (fun w' hw' => DoC_func en75 rfl) (fun w' hw' => with_c _ (lay xs a.toNat (cut xs t.toNat 96)) m k3 k4 hM _ t.toNat (by omega) _ 96 (cut xs a.toNat 96) k1 (by omega) (by omega) w' (Sep.slr (i := 1) (Sep.sees H hw') rfl) ((hr.only (Sep.only (Sep.sees H hw')) (by simp)).cutb a.toNat 96 (by omega) (by omega))) ?_
      rintro w' _ w199 hw' ⟨vx, rfl, hv2, hB⟩
      replace H := Sep.sees H hw'
      replace H := H.got hB hv2
      refine ⟨_, rfl, ?_⟩
      refine XL_pure rfl rfl rfl (fun w' => Do_assign (v := vx) rfl) ?_
      refine XL_pure rfl rfl rfl (fun w' => Do_assign rfl) ?_
      refine XL_nil fun w200 hS => ?_
      replace H := H.sees hS
      refine (thenQ_n (hK15 _ _ ?_))
      refine (WP_ret (post2 (v1 := vx) (v2 := .int _ _) rfl rfl rfl ?_))
      have q := swapE_4 (m := m) (show ¬ placeN m a 96 ≠ 0 by omega) (show ¬ placeN m t 96 ≠ 0 by omega) q3
      exact ⟨vx, by rw [q], by rw [swapX_2 q]; exact H.slr (i := 2) rfl, fun b h => .inr (owns_ge (H.give (i := 2) rfl) b (ob_mem.2 h)).1, H.kept⟩
end Go.Proofs.YtafgmocdnjdmoaaDoor
