/- What the walks and the laws stand on; no condition but those that stand in the statements. -/
import Derived.Test.YtafgmocdnjdmoaaDoorRows
import Derived.Test.YtafgmocdnjdmoaaDoorC28
namespace Go.Proofs.YtafgmocdnjdmoaaDoor
open Go.RowKit Go.OB Go.Fr1
theorem sz56 : Sz Tryd.prog 56 512 := by unfold Sz; kernel_rfl
theorem agg56 : Agg Tryd.prog 56 := by unfold Agg; kernel_rfl
/-- orangebox/orangeboxref1.PutSecond -/
theorem Put2Ref_c (v : Value) (xs : List Nat) (m : Nat) (hm : xs.length = m) (hx : Byte xs) (hM : m ≤ 140737488351232) (a : Int) (G : List Nat) (hG : G.length = 512) (hs : Small G) (w : World) (hr : SlR w v 1 m (bys xs)) :
    Calls Tryd.prog 38 #[v, .int .i64 a, .agg (wds G).toArray] w fun e w' => ∃ v', e = .returned (.tuple #[v', .int .i64 (put2E m a G)]) ∧ SlR w' v' 1 m (bys (put2X xs m a G)) ∧ (∀ b, sblk v' = some b → sblk v = some b ∨ w.heap.size ≤ b) ∧ Below w.heap.size w w' := by
  refine calls_of_WP (args := [v, .int .i64 a, .agg (wds G).toArray]) 35 Tryd.func38 rfl rfl rfl ?_
  obtain ⟨vy, vc, rfl⟩ := hr.shape
  have H := Sep.start [] w
  refine WP_seq_k fun K1 hK1 => ?_
  refine WP_region ?_
  refine RL_ex rfl rfl (Ex_box rfl) ?_
  rintro _ w311 ⟨b64, rfl, hA⟩
  replace H := H.alloc hA
  refine RL_do rfl rfl (Do_assign rfl) ?_
  refine RL_do rfl rfl (Do_assign rfl) ?_
  refine (RL_nil (thenQ_n (hK1 _ _ ?_)))
  refine WP_seq_k fun K2 hK2 => ?_
  refine WP_seq_k fun K3 hK3 => ?_
  refine WP_region ?_
  refine RL_do rfl rfl (Do_move (v := .slice _ _ _) rfl) ?_
  refine RL_do rfl rfl (Do_move (v := .int _ _) rfl) ?_
  refine RL_call rfl rfl (DoC_func en73 rfl) (Place_c vy m vc a 768 (by omega) (by omega) (by omega) w311) ?_
  rintro _ w312 ⟨rfl, hB⟩
  replace H := H.below hB
  refine ⟨_, rfl, ?_⟩
  refine RL_do rfl rfl (Do_assign (v := .int _ _) rfl) ?_
  refine (RL_nil (thenQ_n (hK3 _ _ ?_)))
  refine WP_seq_k fun K4 hK4 => ?_
  refine WP_region ?_
  refine RL_do rfl rfl (Do_move (v := .int _ _) rfl) ?_
  refine RL_do rfl rfl (Do_neq rfl rfl) ?_
  refine (RL_nil (thenQ_n (hK4 _ _ ?_)))
  first | refine WP_if rfl (fun c1 => ?_) (fun c1 => ?_) | refine WP_ifb rfl (fun c1 => ?_) (fun c1 => ?_)
  · skip
    refine WP_seq_k fun K5 hK5 => ?_
    refine WP_region ?_
    refine RL_do rfl rfl (Do_move (v := .slice _ _ _) rfl) ?_
    refine RL_do rfl rfl (Do_move (v := .int _ _) rfl) ?_
    refine RL_do rfl rfl (Do_assign (v := .slice _ _ _) rfl) ?_
    refine RL_do rfl rfl (Do_assign (v := .int _ _) rfl) ?_
    refine (RL_nil (thenQ_n (hK5 _ _ ?_)))
    refine (WP_ret (thenQ_r (post2 (v1 := .slice _ _ _) (v2 := .int _ _) rfl rfl rfl ?_)))
    have q := p2_1 (G := G) (show placeN m a 768 ≠ 0 by assumption)
    exact ⟨_, by rw [q.1], by rw [(q.2 xs 0).2]; exact (hr.only (Sep.only H) (by simp)), fun b h => .inl h, H.kept⟩
  · skip
    refine (WP_skip (thenQ_n (hK2 _ _ ?_)))
    refine WP_seq_k fun K6 hK6 => ?_
    refine WP_region ?_
    refine RL_do rfl rfl (Do_assign rfl) ?_
    replace H := H.nil 5 1
    refine (RL_nil (thenQ_n (hK6 _ _ ?_)))
    refine WP_seq_k fun K7 hK7 => ?_
    refine WP_seq_k fun K8 hK8 => ?_
    refine WP_region ?_
    refine RL_do rfl rfl (Do_loads agg56 rfl sz56 (by simp [wds_length, bys_length, *]) (Blk.cells (Sep.blk (i := 0) H rfl))) ?_
    refine RL_do rfl rfl (Do_move rfl) ?_
    refine (RL_nil (thenQ_n (hK8 _ _ ?_)))
    refine WP_block ?_
    refine WP_loopS2 [6, 7, 9, 11, 20, 21, 22, 23, 24, 25, 26, 27, 28, 29, 30] (fun (g : Nat) (h : Value) => [(20, .int .i64 (g : Nat)), (9, h)]) (fun (g : Nat) (h : Value) wl => Sep [] w wl [.blk b64 (wds G) 56, .sl h 5 1 (96 * g) (bys (secN G g))] ∧ g ≤ 8 ∧ noW G g) (fun (g : Nat) (h : Value) => 8 - g) (0) (.slice none 0 0) (Sl_cons rfl (Sl_cons rfl Sl_nil)) ⟨H, ⟨by decide, fun j h => by omega⟩⟩ ?_
    clear H
    rintro k va ρ w313 ⟨H, ⟨hk, hi⟩⟩
    refine WP_seq_k fun K9 hK9 => ?_
    refine WP_region ?_
    refine RL_do rfl rfl (Do_lss rfl rfl) ?_
    refine (RL_nil (thenQ_n (hK9 _ _ ?_)))
    refine WP_seq_k fun K10 hK10 => ?_
    first | refine WP_if rfl (fun c2 => ?_) (fun c2 => ?_) | refine WP_ifb rfl (fun c2 => ?_) (fun c2 => ?_)
    · skip
      refine (WP_skip (thenQ_n (hK10 _ _ ?_)))
      refine WP_seq_k fun K11 hK11 => ?_
      refine WP_block ?_
      refine WP_seq_k fun K12 hK12 => ?_
      refine WP_region ?_
      have hk8 : k < 8 := by omega
      have flk := fr_len hG hk8
      refine RL_do rfl rfl (Do_index_fr u56 agg25 sz25 rfl rfl (by omega)) ?_
      refine RL_ex rfl rfl (Ex_alloc zero25) ?_
      rintro _ w314 ⟨b65, rfl, hA⟩
      replace H := H.alloc hA
      refine RL_exU rfl (Ex_storeAll sz25 (by simp [wds_length, bys_length, *]) rfl rfl (one_wds) (Sep.blk (i := 2) H rfl) (by simp [wds_length, bys_length, *])) ?_
      rintro w315 hW
      replace H := H.wr (i := 2) rfl hW
      refine (RL_nil (thenQ_n (hK12 _ _ ?_)))
      refine WP_seq_k fun K13 hK13 => ?_
      refine WP_seq_k fun K14 hK14 => ?_
      refine WP_region ?_
      refine RL_do rfl rfl (Do_loads agg25 rfl sz25 (by simp [wds_length, bys_length, *]) (Blk.cells (Sep.blk (i := 2) H rfl))) ?_
      refine RL_call rfl rfl (DoC_func en74 rfl) (WideRef_c (fr G k) flk (fr_small hs k) w315) ?_
      rintro _ w316 ⟨rfl, hB⟩
      replace H := H.below hB
      refine ⟨_, rfl, ?_⟩
      refine (RL_nil (thenQ_n (hK14 _ _ ?_)))
      first | refine WP_if rfl (fun c3 => ?_) (fun c3 => ?_) | refine WP_ifb rfl (fun c3 => ?_) (fun c3 => ?_)
      · skip
        refine WP_seq_k fun K15 hK15 => ?_
        refine WP_region ?_
        refine RL_do rfl rfl (Do_move (v := .slice _ _ _) rfl) ?_
        refine RL_do rfl rfl (Do_assign (v := .slice _ _ _) rfl) ?_
        refine RL_do rfl rfl (Do_assign rfl) ?_
        refine (RL_nil (thenQ_n (hK15 _ _ ?_)))
        refine (WP_ret (thenQ_r (blockQ_r (thenQ_r (thenQ_r (blockQ_r (thenQ_r (post2 (v1 := .slice _ _ _) (v2 := .int _ _) rfl rfl rfl ?_))))))))
        have q := p2_2 (G := G) (show ¬ placeN m a 768 ≠ 0 by assumption) (fun h => h k (by omega) (by assumption))
        exact ⟨_, by rw [q.1], by rw [(q.2 xs 0).2]; exact (hr.only (Sep.only H) (by simp)), fun b h => .inl h, H.kept⟩
      · skip
        refine (WP_skip (thenQ_n (hK13 _ _ ?_)))
        refine WP_region ?_
        refine RL_do rfl rfl (Do_move (v := va) rfl) ?_
        refine RL_do rfl rfl (Do_loads agg25 rfl sz25 (by simp [wds_length, bys_length, *]) (Blk.cells (Sep.blk (i := 2) H rfl))) ?_
        refine RL_call rfl rfl (DoC_func en76 rfl) (bytesRef_c (fr G k) flk (fr_small hs k) w316) ?_
        rintro _ w317 ⟨bb, rfl, hb, hge, hB⟩
        replace H := H.gotb hB hb hge
        refine ⟨_, rfl, ?_⟩
        refine RL_ex rfl rfl (Ex_append u22 el5 rfl rfl (Sep.sl (i := 1) H rfl) (Blk.slr (Sep.blk (i := 3) H rfl) 96 1 (by rw [bys_length, bytesN_len]) (by decide)) one_bys (by rw [maxLen_eq]; omega) (by omega)) ?_
        rintro va12 w318 hA
        replace H := H.app (i := 1) rfl hA
        replace H := H.convs (i := 1) rfl (n' := 96 * (k + 1)) (xs' := bys (secN G (k + 1))) (by omega) (bys_app _ _).symm
        refine RL_do rfl rfl (Do_assign (v := va12) rfl) ?_
        refine (RL_nil (blockQ_n (thenQ_n (hK11 _ _ ?_))))
        refine WP_region ?_
        refine RL_do rfl rfl (Do_add rfl rfl (wrap_i64 (by omega) (by omega))) ?_
        refine RL_do rfl rfl (Do_move (v := .int _ _) rfl) ?_
        replace H := H.keep [true, true, false, false]
        refine (RL_nil (thenQ_n (And.intro ?_ ?_)))
        · repeat' (first | with_reducible exact Fr_refl | refine Fr_upd rfl ?_ | refine Fr_over rfl rfl ?_)
        · refine ⟨k + 1, va12, (Sl_cons (vint (by omega)) (Sl_cons rfl Sl_nil)), ?_, ?_⟩
          · exact ⟨H, by omega, upto_succ (P := fun j => ¬ wideN (fr G j)) hi (by assumption)⟩
          · omega
    · skip
      refine (WP_exit (thenQ_x (thenQ_x (blockQ_eq (thenQ_n (hK7 _ _ ?_))))))
      refine WP_seq_k fun K16 hK16 => ?_
      refine WP_region ?_
      (obtain rfl : k = 8 := by omega)
      have q0 := placeN_0 (show placeN m a 768 = 0 by omega)
      refine RL_do rfl rfl (Do_move (v := .slice _ _ _) rfl) ?_
      refine RL_do rfl rfl (Do_move (v := .int _ _) rfl) ?_
      refine RL_do rfl rfl (Do_move (v := va) rfl) ?_
      refine RL_call rfl rfl (DoC_func en75 rfl) (with_c _ xs m hm hx hM _ a.toNat (by omega) _ 768 (secN G 8) (secN_len G 8) (by omega) (by omega) w313 (hr.only (Sep.only H) (by simp)) (Sep.slr (i := 1) H rfl)) ?_
      rintro _ w319 ⟨vw, rfl, hv, hB⟩
      replace H := H.got hB hv
      refine ⟨_, rfl, ?_⟩
      refine RL_do rfl rfl (Do_assign (v := vw) rfl) ?_
      refine RL_do rfl rfl (Do_assign rfl) ?_
      refine (RL_nil (thenQ_n (hK16 _ _ ?_)))
      refine (WP_ret (post2 (v1 := vw) (v2 := .int _ _) rfl rfl rfl ?_))
      have q := p2_3 (G := G) (show ¬ placeN m a 768 ≠ 0 by assumption) hi
      exact ⟨vw, by rw [q.1], by rw [(q.2 xs 0).2]; exact H.slr (i := 2) rfl, fun b h => .inr (owns_ge (H.give (i := 2) rfl) b (ob_mem.2 h)).1, H.kept⟩
end Go.Proofs.YtafgmocdnjdmoaaDoor
