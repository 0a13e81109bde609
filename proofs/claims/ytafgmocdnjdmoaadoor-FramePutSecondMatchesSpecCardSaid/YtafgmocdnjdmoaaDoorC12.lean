/- What the walks and the laws stand on; no condition but those that stand in the statements. -/
import Derived.Test.YtafgmocdnjdmoaaDoorRows
import Derived.Test.YtafgmocdnjdmoaaDoorC11
namespace Go.Proofs.YtafgmocdnjdmoaaDoor
open Go.RowKit Go.OB Go.Fr1
theorem en73 : Enters Tryd.prog 73 := ⟨_, Tryd.func73, rfl, by kernel_rfl⟩
theorem en74 : Enters Tryd.prog 74 := ⟨_, Tryd.func74, rfl, by kernel_rfl⟩
theorem en75 : Enters Tryd.prog 75 := ⟨_, Tryd.func75, rfl, by kernel_rfl⟩
theorem en76 : Enters Tryd.prog 76 := ⟨_, Tryd.func76, rfl, by kernel_rfl⟩
/-- orangebox/orangeboxref1.with -/
theorem with_c (v : Value) (xs : List Nat) (m : Nat) (hm : xs.length = m) (hx : Byte xs) (hM : m ≤ 140737488351232) (ax : Int) (a : Nat) (hax : ax = a) (v2 : Value) (n : Nat) (ys : List Nat) (hn : ys.length = n) (h0 : 0 < n) (hfit : a + n ≤ m) (w : World) (hr : SlR w v 1 m (bys xs)) (hr2 : SlR w v2 1 n (bys ys)) :
    Calls Tryd.prog 75 #[v, .int .i64 ax, v2] w fun e w' => ∃ v', e = .returned v' ∧ w'.ownsRow w.heap.size 5 1 v' m (bys (lay xs a ys)) ∧ Below w.heap.size w w' := by
  refine calls_of_WP (args := [v, .int .i64 ax, v2]) 17 Tryd.func75 rfl rfl rfl ?_
  obtain ⟨va, vc, rfl⟩ := hr.shape
  obtain ⟨va2, vc2, rfl⟩ := hr2.shape
  have H := Sep.start [] w
  refine WP_seq_k fun K1 hK1 => ?_
  refine WP_region ?_
  refine RL_do rfl rfl (Do_assign rfl) ?_
  refine (RL_nil (thenQ_n (hK1 _ _ ?_)))
  refine WP_seq_k fun K2 hK2 => ?_
  refine WP_region ?_
  refine RL_ex rfl rfl (Ex_bs0 u22 el5) ?_
  rintro _ w138 ⟨b32, rfl, hA⟩
  replace H := H.alloc hA
  replace H := H.asSl (i := 0) rfl 0 1 rfl (by decide)
  refine RL_do rfl rfl (Do_move (v := .slice _ _ _) rfl) ?_
  refine RL_ex rfl rfl (Ex_append u22 el5 rfl rfl (Sep.sl (i := 0) H rfl) (hr.only (Sep.only H) (by simp)) one_bys (by rw [maxLen_eq]; omega) (by omega)) ?_
  rintro va8 w139 hA
  replace H := H.app (i := 0) rfl hA
  refine RL_do rfl rfl (Do_assign (v := va8) rfl) ?_
  refine (RL_nil (thenQ_n (hK2 _ _ ?_)))
  refine WP_seq_k fun K3 hK3 => ?_
  refine WP_region ?_
  obtain ⟨g, cap, R0, rfl, -, hc1, hc2⟩ := owns_some (Sep.sl (i := 0) H rfl) (by omega)
  rw [Nat.zero_add] at hc1
  refine RL_do rfl rfl (Do_move (v := .slice _ _ _) rfl) ?_
  refine RL_do rfl rfl (Do_move (v := .int _ _) rfl) ?_
  refine RL_do rfl rfl (Do_slice_lo u22 sz5 (i := a) (m := a) rfl rfl hax (by omega) (by omega) (by omega)) ?_
  refine RL_do rfl rfl (Do_move (v := .slice _ _ _) rfl) ?_
  refine RL_ex rfl rfl (Ex_copy u22 sz5 rfl rfl (Sep.sl (i := 0) H rfl) (hr2.only (Sep.only H) (by simp)) (by omega) (by omega) one_bys) ?_
  rintro _ w140 ⟨rfl, hA⟩
  replace H := H.app (i := 0) rfl hA
  refine (RL_nil (thenQ_n (hK3 _ _ ?_)))
  refine WP_seq_k fun K4 hK4 => ?_
  refine WP_region ?_
  refine RL_do rfl rfl (Do_move (v := .slice _ _ _) rfl) ?_
  refine RL_do rfl rfl (Do_assign (v := .slice _ _ _) rfl) ?_
  refine (RL_nil (thenQ_n (hK4 _ _ ?_)))
  refine (WP_ret (post1 (v1 := .slice _ _ _) rfl rfl ?_))
  refine ⟨_, rfl, ?_, H.kept⟩
  have h := H.give (i := 0) rfl
  rw [Nat.zero_add] at h
  have e : splice ([] ++ bys xs) a (bys ys) = bys (lay xs a ys) := by simp [splice, bys, lay]
  rw [e] at h
  rw [Nat.zero_add]
  exact h

/-- orangebox/orangeboxref1.Put -/
theorem PutRef_c (v : Value) (xs : List Nat) (m : Nat) (hm : xs.length = m) (hx : Byte xs) (hM : m ≤ 140737488351232) (a : Int) (f : List Nat) (hl : f.length = 64) (hs : Small f) (w : World) (hr : SlR w v 1 m (bys xs)) :
    Calls Tryd.prog 17 #[v, .int .i64 a, .agg (wds f).toArray] w fun e w' => ∃ v', e = .returned (.tuple #[v', .int .i64 (putE m a f)]) ∧ SlR w' v' 1 m (bys (putX xs m a f)) ∧ (∀ b, sblk v' = some b → sblk v = some b ∨ w.heap.size ≤ b) ∧ Below w.heap.size w w' := by
  refine calls_of_WP (args := [v, .int .i64 a, .agg (wds f).toArray]) 24 Tryd.func17 rfl rfl rfl ?_
  obtain ⟨va, vc, rfl⟩ := hr.shape
  have H := Sep.start [] w
  refine WP_seq_k fun K1 hK1 => ?_
  refine WP_region ?_
  refine RL_ex rfl rfl (Ex_box rfl) ?_
  rintro _ w141 ⟨b33, rfl, hA⟩
  replace H := H.alloc hA
  refine RL_do rfl rfl (Do_assign rfl) ?_
  refine RL_do rfl rfl (Do_assign rfl) ?_
  refine (RL_nil (thenQ_n (hK1 _ _ ?_)))
  refine WP_seq_k fun K2 hK2 => ?_
  refine WP_seq_k fun K3 hK3 => ?_
  refine WP_region ?_
  refine RL_do rfl rfl (Do_move (v := .slice _ _ _) rfl) ?_
  refine RL_do rfl rfl (Do_move (v := .int _ _) rfl) ?_
  refine RL_call rfl rfl (DoC_func en73 rfl) (Place_c va m vc a 96 (by omega) (by omega) (by omega) w141) ?_
  rintro _ w142 ⟨rfl, hB⟩
  replace H := H.below hB
  refine ⟨_, rfl, ?_⟩
  refine RL_do rfl rfl (Do_assign (v := .int _ _) rfl) ?_
  refine (RL_nil (thenQ_n (hK3 _ _ ?_)))
  refine WP_seq_k fun K4 hK4 => ?_
  refine WP_region ?_
  refine RL_do rfl rfl (Do_move (v := .int _ _) rfl) ?_
  refine RL_do rfl rfl (Do_neq rfl rfl) ?_
  refine (RL_nil (thenQ_n (hK4 _ _ ?_)))
  first | refine WP_if rfl (fun c1 => ?_) (fun c1 => ?_) | refine WP_ifb rfl (fun c1 => ?_) (fun c1 => ?_)
  · skip
    refine WP_seq_k fun K5 hK5 => ?_
    refine WP_region ?_
    refine RL_do rfl rfl (Do_move (v := .slice _ _ _) rfl) ?_
    refine RL_do rfl rfl (Do_move (v := .int _ _) rfl) ?_
    refine RL_do rfl rfl (Do_assign (v := .slice _ _ _) rfl) ?_
    refine RL_do rfl rfl (Do_assign (v := .int _ _) rfl) ?_
    refine (RL_nil (thenQ_n (hK5 _ _ ?_)))
    refine (WP_ret (thenQ_r (post2 (v1 := .slice _ _ _) (v2 := .int _ _) rfl rfl rfl ?_)))
    have q := put_1 (f := f) [] 0 (show placeN m a 96 ≠ 0 by assumption)
    exact ⟨_, by rw [q.1], by rw [putX_1 (fun h => by omega)]; exact (hr.only (Sep.only H) (by simp)), fun b h => .inl h, H.kept⟩
  · skip
    refine (WP_skip (thenQ_n (hK2 _ _ ?_)))
    refine WP_seq_k fun K6 hK6 => ?_
    refine WP_seq_k fun K7 hK7 => ?_
    refine WP_region ?_
    refine RL_do rfl rfl (Do_loads agg25 rfl sz25 (by simp [wds_length, bys_length, hl]) (Blk.cells (Sep.blk (i := 0) H rfl))) ?_
    refine RL_call rfl rfl (DoC_func en74 rfl) (WideRef_c f hl hs w142) ?_
    rintro _ w143 ⟨rfl, hB⟩
    replace H := H.below hB
    refine ⟨_, rfl, ?_⟩
    refine (RL_nil (thenQ_n (hK7 _ _ ?_)))
    first | refine WP_if rfl (fun c2 => ?_) (fun c2 => ?_) | refine WP_ifb rfl (fun c2 => ?_) (fun c2 => ?_)
    · skip
      refine WP_seq_k fun K8 hK8 => ?_
      refine WP_region ?_
      refine RL_do rfl rfl (Do_move (v := .slice _ _ _) rfl) ?_
      refine RL_do rfl rfl (Do_assign (v := .slice _ _ _) rfl) ?_
      refine RL_do rfl rfl (Do_assign rfl) ?_
      refine (RL_nil (thenQ_n (hK8 _ _ ?_)))
      refine (WP_ret (thenQ_r (post2 (v1 := .slice _ _ _) (v2 := .int _ _) rfl rfl rfl ?_)))
      have q := put_2 (f := f) [] 0 (show ¬ placeN m a 96 ≠ 0 by assumption) (by assumption)
      exact ⟨_, by rw [q.1], by rw [putX_1 (fun h => h.2 (by assumption))]; exact (hr.only (Sep.only H) (by simp)), fun b h => .inl h, H.kept⟩
    · skip
      refine (WP_skip (thenQ_n (hK6 _ _ ?_)))
      refine WP_seq_k fun K9 hK9 => ?_
      refine WP_region ?_
      have q0 := placeN_0 (show placeN m a 96 = 0 by omega)
      refine RL_do rfl rfl (Do_move (v := .slice _ _ _) rfl) ?_
      refine RL_do rfl rfl (Do_move (v := .int _ _) rfl) ?_
      refine RL_do rfl rfl (Do_loads agg25 rfl sz25 (by simp [wds_length, bys_length, hl]) (Blk.cells (Sep.blk (i := 0) H rfl))) ?_
      refine RL_call rfl rfl (DoC_func en76 rfl) (bytesRef_c f hl hs w143) ?_
      rintro _ w144 ⟨bb, rfl, hb, hge, hB⟩
      replace H := H.gotb hB hb hge
      refine ⟨_, rfl, ?_⟩
      refine RL_call rfl rfl (DoC_func en75 rfl) (with_c _ xs m hm hx hM _ a.toNat (by omega) _ 96 (bytesN f) (bytesN_len f) (by omega) (by omega) w144 (hr.only (Sep.only H) (by simp)) (Blk.slr (Sep.blk (i := 1) H rfl) 96 1 (by rw [bys_length, bytesN_len]) (by decide))) ?_
      rintro _ w145 ⟨vw, rfl, hv, hB⟩
      replace H := H.got hB hv
      refine ⟨_, rfl, ?_⟩
      refine RL_do rfl rfl (Do_assign (v := vw) rfl) ?_
      refine RL_do rfl rfl (Do_assign rfl) ?_
      refine (RL_nil (thenQ_n (hK9 _ _ ?_)))
      refine (WP_ret (post2 (v1 := vw) (v2 := .int _ _) rfl rfl rfl ?_))
      have q := put_3 (f := f) [] 0 (show ¬ placeN m a 96 ≠ 0 by assumption) (by assumption)
      exact ⟨vw, by rw [q.1], by rw [putX_2 (by omega) (by assumption)]; exact H.slr (i := 2) rfl, fun b h => .inr (owns_ge (H.give (i := 2) rfl) b (ob_mem.2 h)).1, H.kept⟩
end Go.Proofs.YtafgmocdnjdmoaaDoor
