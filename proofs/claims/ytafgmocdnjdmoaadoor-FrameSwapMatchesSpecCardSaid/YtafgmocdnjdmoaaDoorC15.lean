/- Walks of functions: what each computes, for every argument; no condition but those that stand in the statements. -/
import Derived.Test.YtafgmocdnjdmoaaDoorRows
import Derived.Test.YtafgmocdnjdmoaaDoorC14
namespace Go.Proofs.YtafgmocdnjdmoaaDoor
open Go.RowKit Go.OB Go.Fr1
theorem en81 : Enters Tryd.prog 81 := ⟨_, Tryd.func81, rfl, by kernel_rfl⟩
/-- orangebox/frame.SetWord -/
theorem SetWord_c (L : List Nat) (R_ : List Value) (hL : Byte L) (b o m c : Nat) (T : TypeId) (hl : o + m ≤ L.length) (hm : m ≤ c) (hc : c ≤ 9223372036854775807) (a i x : Int) (w : World) (hb : Blk w b (byr L R_) T) :
    Calls Tryd.prog 25 #[.slice (some ⟨b, o, none⟩) m c, .int .i64 a, .int .i64 i, .int .i64 x] w fun e w' => e = .returned (.int .i64 (setE m a i x)) ∧ Only [b] w w' ∧ Blk w' b (byr (if setE m a i x = 0 then setW L (o + a.toNat) i.toNat x.toNat else L) R_) T := by
  refine calls_of_WP (args := [.slice (some ⟨b, o, none⟩) m c, .int .i64 a, .int .i64 i, .int .i64 x]) 39 Tryd.func25 rfl rfl rfl ?_
  have H := Sep.start1 hb
  refine WP_seq_k fun K1 hK1 => ?_
  refine WP_region ?_
  refine RL_do rfl rfl (Do_assign rfl) ?_
  refine (RL_nil (thenQ_n (hK1 _ _ ?_)))
  refine WP_seq_k fun K2 hK2 => ?_
  refine WP_region ?_
  refine RL_do rfl rfl (Do_move (v := .slice _ _ _) rfl) ?_
  refine RL_do rfl rfl (Do_move (v := .int _ _) rfl) ?_
  refine RL_call rfl rfl (DoC_func en77 rfl) (inPlace_c _ m c a hm hc (fun _ => ⟨_, _, rfl⟩) w) ?_
  rintro _ w161 ⟨pv, rfl, hpv, hB⟩
  replace H := H.below hB
  refine ⟨_, rfl, ?_⟩
  refine RL_do rfl rfl (Do_move (v := .tuple _) rfl) ?_
  refine RL_do rfl rfl (Do_extract (v := .pointer _) rfl rfl) ?_
  refine RL_do rfl rfl (Do_extract (v := .int _ _) rfl rfl) ?_
  refine RL_do rfl rfl (Do_assign (v := .pointer _) rfl) ?_
  refine RL_do rfl rfl (Do_assign (v := .int _ _) rfl) ?_
  refine (RL_nil (thenQ_n (hK2 _ _ ?_)))
  refine WP_seq_k fun K3 hK3 => ?_
  refine WP_seq_k fun K4 hK4 => ?_
  refine WP_region ?_
  refine RL_do rfl rfl (Do_move (v := .int _ _) rfl) ?_
  refine RL_do rfl rfl (Do_neq rfl rfl) ?_
  refine (RL_nil (thenQ_n (hK4 _ _ ?_)))
  first | refine WP_if rfl (fun c1 => ?_) (fun c1 => ?_) | refine WP_ifb rfl (fun c1 => ?_) (fun c1 => ?_)
  · skip
    refine WP_seq_k fun K5 hK5 => ?_
    refine WP_region ?_
    refine RL_do rfl rfl (Do_move (v := .int _ _) rfl) ?_
    refine RL_do rfl rfl (Do_assign (v := .int _ _) rfl) ?_
    refine (RL_nil (thenQ_n (hK5 _ _ ?_)))
    refine (WP_ret (thenQ_r (post1 (v1 := .int _ _) rfl rfl ?_)))
    have q := setE_1 (i := i) (x := x) (show placeN m a 96 ≠ 0 by assumption)
    exact ⟨reti q.symm, H.only, by rw [if_neg (by omega)]; exact H.blk (i := 0) rfl⟩
  · skip
    refine (WP_skip (thenQ_n (hK3 _ _ ?_)))
    refine WP_seq_k fun K6 hK6 => ?_
    refine WP_seq_k fun K7 hK7 => ?_
    refine WP_region ?_
    have q0 := placeN_0 (show placeN m a 96 = 0 by omega)
    obtain rfl := hpv (by omega)
    simp only [Option.map_some, Addr.add_none]
    refine RL_do rfl rfl (Do_move (v := .int _ _) rfl) ?_
    refine RL_do rfl rfl (Do_lss rfl rfl) ?_
    first | refine RL_split rfl rfl rfl (fun c2 => ?_) (fun c2 => ?_) | refine RL_splitb rfl rfl rfl (fun c2 => ?_) (fun c2 => ?_)
    · skip
      refine RL_off rfl rfl ?_
      refine RL_off rfl rfl ?_
      refine RL_do rfl rfl (Do_pick_t (v := .bool _) rfl rfl) ?_
      refine RL_do rfl rfl (Do_move (v := .bool _) rfl) ?_
      refine RL_off rfl rfl ?_
      refine RL_off rfl rfl ?_
      refine RL_do rfl rfl (Do_pick_t (v := .bool _) rfl rfl) ?_
      refine RL_do rfl rfl (Do_move (v := .bool _) rfl) ?_
      refine RL_off rfl rfl ?_
      refine RL_off rfl rfl ?_
      refine RL_do rfl rfl (Do_pick_t (v := .bool _) rfl rfl) ?_
      refine (RL_nil (thenQ_n (hK7 _ _ ?_)))
      refine WP_ift rfl ?_
      refine WP_seq_k fun K8 hK8 => ?_
      refine WP_region ?_
      refine RL_do rfl rfl (Do_assign rfl) ?_
      refine (RL_nil (thenQ_n (hK8 _ _ ?_)))
      refine (WP_ret (thenQ_r (post1 (v1 := .int _ _) rfl rfl ?_)))
      have q := setE_2 (i := i) (x := x) (show ¬ placeN m a 96 ≠ 0 by omega) (by omega)
      exact ⟨reti q.symm, H.only, by rw [if_neg (by omega)]; exact H.blk (i := 0) rfl⟩
    · skip
      refine RL_do rfl rfl (Do_move (v := .int _ _) rfl) ?_
      refine RL_do rfl rfl (Do_geq rfl rfl) ?_
      refine RL_do rfl rfl (Do_pick_f (v := .bool _) rfl rfl) ?_
      first | refine RL_split rfl rfl rfl (fun c3 => ?_) (fun c3 => ?_) | refine RL_splitb rfl rfl rfl (fun c3 => ?_) (fun c3 => ?_)
      · skip
        refine RL_off rfl rfl ?_
        refine RL_off rfl rfl ?_
        refine RL_do rfl rfl (Do_pick_t (v := .bool _) rfl rfl) ?_
        refine RL_do rfl rfl (Do_move (v := .bool _) rfl) ?_
        refine RL_off rfl rfl ?_
        refine RL_off rfl rfl ?_
        refine RL_do rfl rfl (Do_pick_t (v := .bool _) rfl rfl) ?_
        refine (RL_nil (thenQ_n (hK7 _ _ ?_)))
        refine WP_ift rfl ?_
        refine WP_seq_k fun K9 hK9 => ?_
        refine WP_region ?_
        refine RL_do rfl rfl (Do_assign rfl) ?_
        refine (RL_nil (thenQ_n (hK9 _ _ ?_)))
        refine (WP_ret (thenQ_r (post1 (v1 := .int _ _) rfl rfl ?_)))
        have q := setE_2 (i := i) (x := x) (show ¬ placeN m a 96 ≠ 0 by omega) (by omega)
        exact ⟨reti q.symm, H.only, by rw [if_neg (by omega)]; exact H.blk (i := 0) rfl⟩
      · skip
        refine RL_do rfl rfl (Do_move (v := .int _ _) rfl) ?_
        refine RL_do rfl rfl (Do_lss rfl rfl) ?_
        refine RL_do rfl rfl (Do_pick_f (v := .bool _) rfl rfl) ?_
        first | refine RL_split rfl rfl rfl (fun c4 => ?_) (fun c4 => ?_) | refine RL_splitb rfl rfl rfl (fun c4 => ?_) (fun c4 => ?_)
        · skip
          refine RL_off rfl rfl ?_
          refine RL_off rfl rfl ?_
          refine RL_do rfl rfl (Do_pick_t (v := .bool _) rfl rfl) ?_
          refine (RL_nil (thenQ_n (hK7 _ _ ?_)))
          refine WP_ift rfl ?_
          refine WP_seq_k fun K10 hK10 => ?_
          refine WP_region ?_
          refine RL_do rfl rfl (Do_assign rfl) ?_
          refine (RL_nil (thenQ_n (hK10 _ _ ?_)))
          refine (WP_ret (thenQ_r (post1 (v1 := .int _ _) rfl rfl ?_)))
          have q := setE_2 (i := i) (x := x) (show ¬ placeN m a 96 ≠ 0 by omega) (by omega)
          exact ⟨reti q.symm, H.only, by rw [if_neg (by omega)]; exact H.blk (i := 0) rfl⟩
        · skip
          refine RL_do rfl rfl (Do_move (v := .int _ _) rfl) ?_
          refine RL_do rfl rfl (Do_gtr rfl rfl) ?_
          refine RL_do rfl rfl (Do_pick_f (v := .bool _) rfl rfl) ?_
          refine (RL_nil (thenQ_n (hK7 _ _ ?_)))
          first | refine WP_if rfl (fun c5 => ?_) (fun c5 => ?_) | refine WP_ifb rfl (fun c5 => ?_) (fun c5 => ?_)
          · skip
            refine WP_seq_k fun K11 hK11 => ?_
            refine WP_region ?_
            refine RL_do rfl rfl (Do_assign rfl) ?_
            refine (RL_nil (thenQ_n (hK11 _ _ ?_)))
            refine (WP_ret (thenQ_r (post1 (v1 := .int _ _) rfl rfl ?_)))
            have q := setE_2 (i := i) (x := x) (show ¬ placeN m a 96 ≠ 0 by omega) (by omega)
            exact ⟨reti q.symm, H.only, by rw [if_neg (by omega)]; exact H.blk (i := 0) rfl⟩
          · skip
            refine (WP_skip (thenQ_n (hK6 _ _ ?_)))
            refine WP_seq_k fun K12 hK12 => ?_
            refine WP_region ?_
            have q1 : ¬ (i < 0 ∨ 63 < i ∨ x < 0 ∨ 4095 < x) := by omega
            refine RL_do rfl rfl (Do_move (v := .pointer _) rfl) ?_
            refine RL_do rfl rfl (Do_move (v := .int _ _) rfl) ?_
            refine RL_do rfl rfl (Do_move (v := .int _ _) rfl) ?_
            refine RL_do rfl rfl (Do_conv u3 u23 rfl (wrap_u16 (by omega) (by omega))) ?_
            refine RL_call rfl rfl (DoC_func en82 rfl) (setW_c L R_ hL b (o + a.toNat) T (by omega) _ i.toNat (by omega) (by omega) _ x.toNat (by omega) (by omega) w161 (Sep.blk (i := 0) H rfl)) ?_
            rintro _ w162 ⟨rfl, hO, hB⟩
            replace H := H.write (i := 0) rfl hB hO
            refine ⟨_, rfl, ?_⟩
            refine (RL_nil (thenQ_n (hK12 _ _ ?_)))
            refine WP_seq_k fun K13 hK13 => ?_
            refine WP_region ?_
            refine RL_do rfl rfl (Do_assign rfl) ?_
            refine (RL_nil (thenQ_n (hK13 _ _ ?_)))
            refine (WP_ret (post1 (v1 := .int _ _) rfl rfl ?_))
            have q := setE_3 (i := i) (x := x) (show ¬ placeN m a 96 ≠ 0 by omega) q1
            exact ⟨reti q.symm, H.only, by rw [if_pos q]; exact H.blk (i := 0) rfl⟩

/-- orangebox/orangeboxref1.SetWord -/
theorem SetWordRef_c (v : Value) (xs : List Nat) (m : Nat) (hm : xs.length = m) (hx : Byte xs) (hM : m ≤ 140737488351232) (a i x : Int) (w : World) (hr : SlR w v 1 m (bys xs)) :
    Calls Tryd.prog 24 #[v, .int .i64 a, .int .i64 i, .int .i64 x] w fun e w' => ∃ v', e = .returned (.tuple #[v', .int .i64 (setE m a i x)]) ∧ SlR w' v' 1 m (bys (setX xs m a i x)) ∧ (∀ b, sblk v' = some b → sblk v = some b ∨ w.heap.size ≤ b) ∧ Below w.heap.size w w' := by
  refine calls_of_WP (args := [v, .int .i64 a, .int .i64 i, .int .i64 x]) 47 Tryd.func24 rfl rfl rfl ?_
  obtain ⟨va, vc, rfl⟩ := hr.shape
  have hin := hr.inner
  have H := Sep.start [] w
  refine WP_seq_k fun K1 hK1 => ?_
  refine WP_region ?_
  refine RL_do rfl rfl (Do_assign rfl) ?_
  refine RL_do rfl rfl (Do_assign rfl) ?_
  refine (RL_nil (thenQ_n (hK1 _ _ ?_)))
  refine WP_seq_k fun K2 hK2 => ?_
  refine WP_seq_k fun K3 hK3 => ?_
  refine WP_region ?_
  refine RL_do rfl rfl (Do_move (v := .slice _ _ _) rfl) ?_
  refine RL_do rfl rfl (Do_move (v := .int _ _) rfl) ?_
  refine RL_call rfl rfl (DoC_func en73 rfl) (Place_c va m vc a 96 (by omega) (by omega) (by omega) w) ?_
  rintro _ w163 ⟨rfl, hB⟩
  replace H := H.below hB
  refine ⟨_, rfl, ?_⟩
  refine RL_do rfl rfl (Do_assign (v := .int _ _) rfl) ?_
  refine (RL_nil (thenQ_n (hK3 _ _ ?_)))
  refine WP_seq_k fun K4 hK4 => ?_
  refine WP_region ?_
  refine RL_do rfl rfl (Do_move (v := .int _ _) rfl) ?_
  refine RL_do rfl rfl (Do_neq rfl rfl) ?_
  refine (RL_nil (thenQ_n (hK4 _ _ ?_)))
  first | refine WP_if rfl (fun c1 => ?_) (fun c1 => ?_) | refine WP_ifb rfl (fun c1 => ?_) (fun c1 => ?_)
  · skip
    refine WP_seq_k fun K5 hK5 => ?_
    refine WP_region ?_
    refine RL_do rfl rfl (Do_move (v := .slice _ _ _) rfl) ?_
    refine RL_do rfl rfl (Do_move (v := .int _ _) rfl) ?_
    refine RL_do rfl rfl (Do_assign (v := .slice _ _ _) rfl) ?_
    refine RL_do rfl rfl (Do_assign (v := .int _ _) rfl) ?_
    refine (RL_nil (thenQ_n (hK5 _ _ ?_)))
    refine (WP_ret (thenQ_r (post2 (v1 := .slice _ _ _) (v2 := .int _ _) rfl rfl rfl ?_)))
    have q := setE_1 (i := i) (x := x) (show placeN m a 96 ≠ 0 by assumption)
    exact ⟨_, by rw [q], by rw [setX_1 (by omega)]; exact (hr.only (Sep.only H) (by simp)), fun b h => .inl h, H.kept⟩
  · skip
    refine (WP_skip (thenQ_n (hK2 _ _ ?_)))
    refine WP_seq_k fun K6 hK6 => ?_
    refine WP_seq_k fun K7 hK7 => ?_
    refine WP_region ?_
    refine RL_do rfl rfl (Do_move (v := .int _ _) rfl) ?_
    refine RL_do rfl rfl (Do_lss rfl rfl) ?_
    first | refine RL_split rfl rfl rfl (fun c2 => ?_) (fun c2 => ?_) | refine RL_splitb rfl rfl rfl (fun c2 => ?_) (fun c2 => ?_)
    · skip
      refine RL_off rfl rfl ?_
      refine RL_off rfl rfl ?_
      refine RL_do rfl rfl (Do_pick_t (v := .bool _) rfl rfl) ?_
      refine RL_do rfl rfl (Do_move (v := .bool _) rfl) ?_
      refine RL_off rfl rfl ?_
      refine RL_off rfl rfl ?_
      refine RL_do rfl rfl (Do_pick_t (v := .bool _) rfl rfl) ?_
      refine RL_do rfl rfl (Do_move (v := .bool _) rfl) ?_
      refine RL_off rfl rfl ?_
      refine RL_off rfl rfl ?_
      refine RL_do rfl rfl (Do_pick_t (v := .bool _) rfl rfl) ?_
      refine (RL_nil (thenQ_n (hK7 _ _ ?_)))
      refine WP_ift rfl ?_
      refine WP_seq_k fun K8 hK8 => ?_
      refine WP_region ?_
      refine RL_do rfl rfl (Do_move (v := .slice _ _ _) rfl) ?_
      refine RL_do rfl rfl (Do_assign (v := .slice _ _ _) rfl) ?_
      refine RL_do rfl rfl (Do_assign rfl) ?_
      refine (RL_nil (thenQ_n (hK8 _ _ ?_)))
      refine (WP_ret (thenQ_r (post2 (v1 := .slice _ _ _) (v2 := .int _ _) rfl rfl rfl ?_)))
      have q := setE_2 (i := i) (x := x) (show ¬ placeN m a 96 ≠ 0 by omega) (by omega)
      exact ⟨_, by rw [q], by rw [setX_1 (by omega)]; exact (hr.only (Sep.only H) (by simp)), fun b h => .inl h, H.kept⟩
    · skip
      refine RL_do rfl rfl (Do_move (v := .int _ _) rfl) ?_
      refine RL_do rfl rfl (Do_gtr rfl rfl) ?_
      refine RL_do rfl rfl (Do_pick_f (v := .bool _) rfl rfl) ?_
      first | refine RL_split rfl rfl rfl (fun c3 => ?_) (fun c3 => ?_) | refine RL_splitb rfl rfl rfl (fun c3 => ?_) (fun c3 => ?_)
      · skip
        refine RL_off rfl rfl ?_
        refine RL_off rfl rfl ?_
        refine RL_do rfl rfl (Do_pick_t (v := .bool _) rfl rfl) ?_
        refine RL_do rfl rfl (Do_move (v := .bool _) rfl) ?_
        refine RL_off rfl rfl ?_
        refine RL_off rfl rfl ?_
        refine RL_do rfl rfl (Do_pick_t (v := .bool _) rfl rfl) ?_
        refine (RL_nil (thenQ_n (hK7 _ _ ?_)))
        refine WP_ift rfl ?_
        refine WP_seq_k fun K9 hK9 => ?_
        refine WP_region ?_
        refine RL_do rfl rfl (Do_move (v := .slice _ _ _) rfl) ?_
        refine RL_do rfl rfl (Do_assign (v := .slice _ _ _) rfl) ?_
        refine RL_do rfl rfl (Do_assign rfl) ?_
        refine (RL_nil (thenQ_n (hK9 _ _ ?_)))
        refine (WP_ret (thenQ_r (post2 (v1 := .slice _ _ _) (v2 := .int _ _) rfl rfl rfl ?_)))
        have q := setE_2 (i := i) (x := x) (show ¬ placeN m a 96 ≠ 0 by omega) (by omega)
        exact ⟨_, by rw [q], by rw [setX_1 (by omega)]; exact (hr.only (Sep.only H) (by simp)), fun b h => .inl h, H.kept⟩
      · skip
        refine RL_do rfl rfl (Do_move (v := .int _ _) rfl) ?_
        refine RL_do rfl rfl (Do_lss rfl rfl) ?_
        refine RL_do rfl rfl (Do_pick_f (v := .bool _) rfl rfl) ?_
        first | refine RL_split rfl rfl rfl (fun c4 => ?_) (fun c4 => ?_) | refine RL_splitb rfl rfl rfl (fun c4 => ?_) (fun c4 => ?_)
        · skip
          refine RL_off rfl rfl ?_
          refine RL_off rfl rfl ?_
          refine RL_do rfl rfl (Do_pick_t (v := .bool _) rfl rfl) ?_
          refine (RL_nil (thenQ_n (hK7 _ _ ?_)))
          refine WP_ift rfl ?_
          refine WP_seq_k fun K10 hK10 => ?_
          refine WP_region ?_
          refine RL_do rfl rfl (Do_move (v := .slice _ _ _) rfl) ?_
          refine RL_do rfl rfl (Do_assign (v := .slice _ _ _) rfl) ?_
          refine RL_do rfl rfl (Do_assign rfl) ?_
          refine (RL_nil (thenQ_n (hK10 _ _ ?_)))
          refine (WP_ret (thenQ_r (post2 (v1 := .slice _ _ _) (v2 := .int _ _) rfl rfl rfl ?_)))
          have q := setE_2 (i := i) (x := x) (show ¬ placeN m a 96 ≠ 0 by omega) (by omega)
          exact ⟨_, by rw [q], by rw [setX_1 (by omega)]; exact (hr.only (Sep.only H) (by simp)), fun b h => .inl h, H.kept⟩
        · skip
          refine RL_do rfl rfl (Do_move (v := .int _ _) rfl) ?_
          refine RL_do rfl rfl (Do_gtr rfl rfl) ?_
          refine RL_do rfl rfl (Do_pick_f (v := .bool _) rfl rfl) ?_
          refine (RL_nil (thenQ_n (hK7 _ _ ?_)))
          first | refine WP_if rfl (fun c5 => ?_) (fun c5 => ?_) | refine WP_ifb rfl (fun c5 => ?_) (fun c5 => ?_)
          · skip
            refine WP_seq_k fun K11 hK11 => ?_
            refine WP_region ?_
            refine RL_do rfl rfl (Do_move (v := .slice _ _ _) rfl) ?_
            refine RL_do rfl rfl (Do_assign (v := .slice _ _ _) rfl) ?_
            refine RL_do rfl rfl (Do_assign rfl) ?_
            refine (RL_nil (thenQ_n (hK11 _ _ ?_)))
            refine (WP_ret (thenQ_r (post2 (v1 := .slice _ _ _) (v2 := .int _ _) rfl rfl rfl ?_)))
            have q := setE_2 (i := i) (x := x) (show ¬ placeN m a 96 ≠ 0 by omega) (by omega)
            exact ⟨_, by rw [q], by rw [setX_1 (by omega)]; exact (hr.only (Sep.only H) (by simp)), fun b h => .inl h, H.kept⟩
          · skip
            refine (WP_skip (thenQ_n (hK6 _ _ ?_)))
            refine WP_seq_k fun K12 hK12 => ?_
            refine WP_region ?_
            have q1 : ¬ (i < 0 ∨ 63 < i ∨ x < 0 ∨ 4095 < x) := by omega
            have q0 := placeN_0 (show placeN m a 96 = 0 by omega)
            obtain ⟨b, o, rfl⟩ := hin.2.2 (by omega)
            have hd := hr.dropb a.toNat (by omega)
            have hdl : (xs.drop a.toNat).length = m - a.toNat := by rw [List.length_drop, hm]
            have lf : ((loadN (xs.drop a.toNat) 0).set i.toNat x.toNat).length = 64 := by rw [List.length_set, loadN_len]
            have sf : Small ((loadN (xs.drop a.toNat) 0).set i.toNat x.toNat) := (show Small (loadN (xs.drop a.toNat) 0) from fun j => by have := loadN_lt (hx.drop a.toNat) 0 j; omega).set _ (by omega)
            refine RL_do rfl rfl (Do_move (v := .slice _ _ _) rfl) ?_
            refine RL_do rfl rfl (Do_move (v := .int _ _) rfl) ?_
            refine RL_do rfl rfl (Do_slice_lo u22 sz5 (i := a.toNat) (m := o + a.toNat) rfl rfl (by omega) (by omega) (by omega) (by omega)) ?_
            refine RL_call rfl rfl (DoC_func en81 rfl) (frameRef_c _ (xs.drop a.toNat) (m - a.toNat) hdl (hx.drop _) (by omega) w163 (hd.only (Sep.only H) (by simp))) ?_
            rintro _ w164 ⟨rfl, hB⟩
            replace H := H.below hB
            refine ⟨_, rfl, ?_⟩
            refine RL_ex rfl rfl (Ex_alloc zero25) ?_
            rintro _ w165 ⟨b37, rfl, hA⟩
            replace H := H.alloc hA
            refine RL_exU rfl (Ex_storeAll sz25 (by simp [wds_length, bys_length, loadN_len]) rfl rfl (one_wds) (Sep.blk (i := 0) H rfl) (by simp [wds_length, bys_length, loadN_len])) ?_
            rintro w166 hW
            replace H := H.wr (i := 0) rfl hW
            refine (RL_nil (thenQ_n (hK12 _ _ ?_)))
            refine WP_seq_k fun K13 hK13 => ?_
            refine WP_region ?_
            refine RL_do rfl rfl (Do_move (v := .int _ _) rfl) ?_
            refine RL_do rfl rfl (Do_move (v := .int _ _) rfl) ?_
            refine RL_do rfl rfl (Do_conv u3 u23 rfl (wrap_u16 (by omega) (by omega))) ?_
            refine RL_do rfl rfl (Do_idxa1 u25 sz23 rfl rfl (by omega) (by omega) (by omega : _ = i.toNat) (by first | exact Nat.zero_add _ | rfl)) ?_
            refine RL_exU rfl (Ex_store1 sz23 rfl rfl rfl (Sep.blk (i := 0) H rfl) (by simp [wds_length, loadN_len]; omega)) ?_
            rintro w167 hW
            replace H := H.wr (i := 0) rfl hW
            replace H := H.conv (i := 0) rfl (wds_setI _ _ (n := x.toNat) (by omega))
            refine (RL_nil (thenQ_n (hK13 _ _ ?_)))
            refine WP_seq_k fun K14 hK14 => ?_
            refine WP_region ?_
            refine RL_do rfl rfl (Do_move (v := .slice _ _ _) rfl) ?_
            refine RL_do rfl rfl (Do_move (v := .int _ _) rfl) ?_
            refine RL_do rfl rfl (Do_loads agg25 rfl sz25 (by simp [wds_length, bys_length, loadN_len]) (Blk.cells (Sep.blk (i := 0) H rfl))) ?_
            refine RL_call rfl rfl (DoC_func en76 rfl) (bytesRef_c _ lf sf w167) ?_
            rintro _ w168 ⟨bb, rfl, hb, hge, hB⟩
            replace H := H.gotb hB hb hge
            refine ⟨_, rfl, ?_⟩
            refine RL_call rfl rfl (DoC_func en75 rfl) (with_c _ xs m hm hx hM _ a.toNat (by omega) _ 96 (bytesN ((loadN (xs.drop a.toNat) 0).set i.toNat x.toNat)) (bytesN_len _) (by omega) (by omega) w168 (hr.only (Sep.only H) (by simp)) (Blk.slr (Sep.blk (i := 1) H rfl) 96 1 (by rw [bys_length, bytesN_len]) (by decide))) ?_
            rintro _ w169 ⟨vw, rfl, hv, hB⟩
            replace H := H.got hB hv
            refine ⟨_, rfl, ?_⟩
            refine RL_do rfl rfl (Do_assign (v := vw) rfl) ?_
            refine RL_do rfl rfl (Do_assign rfl) ?_
            refine (RL_nil (thenQ_n (hK14 _ _ ?_)))
            refine (WP_ret (post2 (v1 := vw) (v2 := .int _ _) rfl rfl rfl ?_))
            have q := setE_3 (i := i) (x := x) (show ¬ placeN m a 96 ≠ 0 by omega) q1
            exact ⟨vw, by rw [q], by rw [setX_2 q]; exact H.slr (i := 2) rfl, fun b h => .inr (owns_ge (H.give (i := 2) rfl) b (ob_mem.2 h)).1, H.kept⟩
end Go.Proofs.YtafgmocdnjdmoaaDoor
