/- Walks of functions: what each computes, for every argument; no condition but those that stand in the statements. -/
import Derived.Test.YtafgmocdnjdmoaaDoorRows
import Derived.Test.YtafgmocdnjdmoaaDoorC16
import Derived.Test.YtafgmocdnjdmoaaDoorSwp
import Derived.Test.YtafgmocdnjdmoaaDoorFrm3
namespace Go.Proofs.YtafgmocdnjdmoaaDoor
open Go.RowKit Go.OB Go.Fr1
theorem sz116 : Sz Tryd.prog 116 96 := by unfold Sz; kernel_rfl
theorem agg116 : Agg Tryd.prog 116 := by unfold Agg; kernel_rfl
/-- orangebox/frame.SwapFrames -/
theorem Swap_c (L : List Nat) (R_ : List Value) (hL : Byte L) (b o m c : Nat) (T : TypeId) (hl : o + m ≤ L.length) (hm : m ≤ c) (hc : c ≤ 9223372036854775807) (a t : Int) (w : World) (hb : Blk w b (byr L R_) T) :
    Calls Tryd.prog 41 #[.slice (some ⟨b, o, none⟩) m c, .int .i64 a, .int .i64 t] w fun e w' => e = .returned (.int .i64 (swapE m a t)) ∧ Only [b] w w' ∧ Blk w' b (byr (if swapE m a t = 0 then swp L (o + a.toNat) (o + t.toNat) else L) R_) T := by
  refine calls_of_WP (args := [.slice (some ⟨b, o, none⟩) m c, .int .i64 a, .int .i64 t]) 48 Tryd.func41 rfl rfl rfl ?_
  have H := Sep.start1 hb
  refine WP_seq_k fun K1 hK1 => ?_
  refine WP_region ?_
  refine RL_do rfl rfl (Do_assign rfl) ?_
  refine (RL_nil (thenQ_n (hK1 _ _ ?_)))
  refine WP_seq_k fun K2 hK2 => ?_
  refine WP_region ?_
  refine RL_do rfl rfl (Do_move (v := .slice _ _ _) rfl) ?_
  refine RL_do rfl rfl (Do_move (v := .int _ _) rfl) ?_
  refine RL_call rfl rfl (DoC_func en77 rfl) (inPlace_c _ m c a hm hc (fun _ => ⟨_, _, rfl⟩) w) ?_
  rintro _ w176 ⟨pv, rfl, hpv, hB⟩
  replace H := H.below hB
  refine ⟨_, rfl, ?_⟩
  refine RL_do rfl rfl (Do_move (v := .tuple _) rfl) ?_
  refine RL_do rfl rfl (Do_extract (v := .pointer _) rfl rfl) ?_
  refine RL_do rfl rfl (Do_extract (v := .int _ _) rfl rfl) ?_
  refine RL_do rfl rfl (Do_assign (v := .pointer _) rfl) ?_
  refine RL_do rfl rfl (Do_assign (v := .int _ _) rfl) ?_
  refine (RL_nil (thenQ_n (hK2 _ _ ?_)))
  refine WP_seq_k fun K3 hK3 => ?_
  refine WP_seq_k fun K4 hK4 => ?_
  refine WP_region ?_
  refine RL_do rfl rfl (Do_move (v := .int _ _) rfl) ?_
  refine RL_do rfl rfl (Do_neq rfl rfl) ?_
  refine (RL_nil (thenQ_n (hK4 _ _ ?_)))
  first | refine WP_if rfl (fun c1 => ?_) (fun c1 => ?_) | refine WP_ifb rfl (fun c1 => ?_) (fun c1 => ?_)
  · skip
    refine WP_seq_k fun K5 hK5 => ?_
    refine WP_region ?_
    refine RL_do rfl rfl (Do_move (v := .int _ _) rfl) ?_
    refine RL_do rfl rfl (Do_assign (v := .int _ _) rfl) ?_
    refine (RL_nil (thenQ_n (hK5 _ _ ?_)))
    refine (WP_ret (thenQ_r (post1 (v1 := .int _ _) rfl rfl ?_)))
    have q := swapE_1 (t := t) (show placeN m a 96 ≠ 0 by assumption)
    exact ⟨reti q.symm, H.only, by rw [if_neg (by omega)]; exact H.blk (i := 0) rfl⟩
  · skip
    refine (WP_skip (thenQ_n (hK3 _ _ ?_)))
    refine WP_seq_k fun K6 hK6 => ?_
    refine WP_region ?_
    refine RL_do rfl rfl (Do_move (v := .slice _ _ _) rfl) ?_
    refine RL_do rfl rfl (Do_move (v := .int _ _) rfl) ?_
    refine RL_call rfl rfl (DoC_func en77 rfl) (inPlace_c _ m c t hm hc (fun _ => ⟨_, _, rfl⟩) w176) ?_
    rintro _ w177 ⟨pw, rfl, hpw, hB⟩
    replace H := H.below hB
    refine ⟨_, rfl, ?_⟩
    refine RL_do rfl rfl (Do_move (v := .tuple _) rfl) ?_
    refine RL_do rfl rfl (Do_extract (v := .pointer _) rfl rfl) ?_
    refine RL_do rfl rfl (Do_extract (v := .int _ _) rfl rfl) ?_
    refine RL_do rfl rfl (Do_assign (v := .pointer _) rfl) ?_
    refine RL_do rfl rfl (Do_assign (v := .int _ _) rfl) ?_
    refine (RL_nil (thenQ_n (hK6 _ _ ?_)))
    refine WP_seq_k fun K7 hK7 => ?_
    refine WP_seq_k fun K8 hK8 => ?_
    refine WP_region ?_
    refine RL_do rfl rfl (Do_move (v := .int _ _) rfl) ?_
    refine RL_do rfl rfl (Do_neq rfl rfl) ?_
    refine (RL_nil (thenQ_n (hK8 _ _ ?_)))
    first | refine WP_if rfl (fun c2 => ?_) (fun c2 => ?_) | refine WP_ifb rfl (fun c2 => ?_) (fun c2 => ?_)
    · skip
      refine WP_seq_k fun K9 hK9 => ?_
      refine WP_region ?_
      refine RL_do rfl rfl (Do_move (v := .int _ _) rfl) ?_
      refine RL_do rfl rfl (Do_assign (v := .int _ _) rfl) ?_
      refine (RL_nil (thenQ_n (hK9 _ _ ?_)))
      refine (WP_ret (thenQ_r (post1 (v1 := .int _ _) rfl rfl ?_)))
      have q := swapE_2 (show ¬ placeN m a 96 ≠ 0 by omega) (show placeN m t 96 ≠ 0 by assumption)
      exact ⟨reti q.symm, H.only, by rw [if_neg (by omega)]; exact H.blk (i := 0) rfl⟩
    · skip
      refine (WP_skip (thenQ_n (hK7 _ _ ?_)))
      refine WP_seq_k fun K10 hK10 => ?_
      refine WP_seq_k fun K11 hK11 => ?_
      refine WP_region ?_
      have q0 := placeN_0 (show placeN m a 96 = 0 by omega)
      have q1 := placeN_0 (show placeN m t 96 = 0 by omega)
      obtain rfl := hpv (by omega)
      obtain rfl := hpw (by omega)
      simp only [Option.map_some, Addr.add_none]
      have k1 : (cut L (o + a.toNat) 96).length = 96 := cut_len (by omega)
      have k2 : (cut L (o + t.toNat) 96).length = 96 := cut_len (by omega)
      have k3 : (lay L (o + a.toNat) (cut L (o + t.toNat) 96)).length = L.length := lay_len (by omega)
      refine RL_do rfl rfl (Do_move (v := .int _ _) rfl) ?_
      refine RL_do rfl rfl (Do_move (v := .int _ _) rfl) ?_
      refine RL_do rfl rfl (Do_sub rfl rfl (wrap_i64 (by omega) (by omega))) ?_
      refine RL_do rfl rfl (Do_lss rfl rfl) ?_
      first | refine RL_split rfl rfl rfl (fun c3 => ?_) (fun c3 => ?_) | refine RL_splitb rfl rfl rfl (fun c3 => ?_) (fun c3 => ?_)
      · skip
        refine RL_do rfl rfl (Do_move (v := .int _ _) rfl) ?_
        refine RL_do rfl rfl (Do_move (v := .int _ _) rfl) ?_
        refine RL_do rfl rfl (Do_sub rfl rfl (wrap_i64 (by omega) (by omega))) ?_
        refine RL_do rfl rfl (Do_lss rfl rfl) ?_
        refine RL_do rfl rfl (Do_pick_t (v := .bool _) rfl rfl) ?_
        refine (RL_nil (thenQ_n (hK11 _ _ ?_)))
        first | refine WP_if rfl (fun c4 => ?_) (fun c4 => ?_) | refine WP_ifb rfl (fun c4 => ?_) (fun c4 => ?_)
        · skip
          refine WP_seq_k fun K12 hK12 => ?_
          refine WP_region ?_
          refine RL_do rfl rfl (Do_assign rfl) ?_
          refine (RL_nil (thenQ_n (hK12 _ _ ?_)))
          refine (WP_ret (thenQ_r (post1 (v1 := .int _ _) rfl rfl ?_)))
          have q := swapE_3 (m := m) (show ¬ placeN m a 96 ≠ 0 by omega) (show ¬ placeN m t 96 ≠ 0 by omega) (by omega)
          exact ⟨reti q.symm, H.only, by rw [if_neg (by omega)]; exact H.blk (i := 0) rfl⟩
        · skip
          refine (WP_skip (thenQ_n (hK10 _ _ ?_)))
          refine WP_seq_k fun K13 hK13 => ?_
          refine WP_mix [.pure, .pure, .pure, .pure, .read, .pure, .pure, .read, .pure, .eff, .pure, .eff] mixed (by kernel_rfl) (by kernel_rfl) (by kernel_rfl) ?_
          have q3 : ¬ (a - t < 96 ∧ t - a < 96) := by omega
          refine XL_pure rfl rfl rfl (fun w' => Do_move (v := .pointer _) rfl) ?_
          refine XL_pure rfl rfl rfl (fun w' => Do_move (v := .pointer _) rfl) ?_
          refine XL_pure rfl rfl rfl (fun w' => Do_move (v := .pointer _) rfl) ?_
          refine XL_pure rfl rfl rfl (fun w' => Do_nilCheck rfl) ?_
          refine XL_read rfl rfl rfl (fun w' hw' => Do_loads (cs := bys (cut L (o + t.toNat) 96)) agg116 rfl sz116 (by rw [bys_length]; exact k2) (Blk.part (Sep.blk (i := 0) (Sep.sees H hw') rfl) (byr_part (by omega)))) ?_
          refine XL_pure rfl rfl rfl (fun w' => Do_move (v := .pointer _) rfl) ?_
          refine XL_pure rfl rfl rfl (fun w' => Do_nilCheck rfl) ?_
          refine XL_read rfl rfl rfl (fun w' hw' => Do_loads (cs := bys (cut L (o + a.toNat) 96)) agg116 rfl sz116 (by rw [bys_length]; exact k1) (Blk.part (Sep.blk (i := 0) (Sep.sees H hw') rfl) (byr_part (by omega)))) ?_
          refine XL_pure rfl rfl rfl (fun w' => Do_nilCheck rfl) ?_
          refine XL_exU rfl rfl (fun w' hw' => Ex_store sz116 (by rw [bys_length]; exact k2) rfl rfl (one_bys) (Sep.blk (i := 0) (Sep.sees H hw') rfl) (by rw [bys_length, byr_len]; omega)) ?_
          rintro w' w178 hw' hW
          replace H := (Sep.sees H hw').wr (i := 0) rfl hW
          replace H := H.conv (i := 0) rfl ((byr_splice (by omega)).trans rfl : _ = byr (lay L (o + a.toNat) (cut L (o + t.toNat) 96)) R_)
          refine XL_pure rfl rfl rfl (fun w' => Do_nilCheck rfl) ?_
          refine XL_exU rfl rfl (fun w' hw' => Ex_store sz116 (by rw [bys_length]; exact k1) rfl rfl (one_bys) (Sep.blk (i := 0) (Sep.sees H hw') rfl) (by rw [bys_length, byr_len]; omega)) ?_
          rintro w' w179 hw' hW
          replace H := (Sep.sees H hw').wr (i := 0) rfl hW
          replace H := H.conv (i := 0) rfl ((byr_splice (by omega)).trans rfl : _ = byr (swp L (o + a.toNat) (o + t.toNat)) R_)
          refine XL_nil fun w180 hS => ?_
          replace H := H.sees hS
          refine (thenQ_n (hK13 _ _ ?_))
          refine WP_seq_k fun K14 hK14 => ?_
          refine WP_region ?_
          refine RL_do rfl rfl (Do_assign rfl) ?_
          refine (RL_nil (thenQ_n (hK14 _ _ ?_)))
          refine (WP_ret (post1 (v1 := .int _ _) rfl rfl ?_))
          have q := swapE_4 (m := m) (show ¬ placeN m a 96 ≠ 0 by omega) (show ¬ placeN m t 96 ≠ 0 by omega) q3
          exact ⟨reti q.symm, H.only, by rw [if_pos q]; exact H.blk (i := 0) rfl⟩
      · skip
        refine RL_off rfl rfl ?_
        refine RL_off rfl rfl ?_
        refine RL_off rfl rfl ?_
        refine RL_off rfl rfl ?_
        refine RL_do rfl rfl (Do_pick_f (v := .bool _) rfl rfl) ?_
        refine (RL_nil (thenQ_n (hK11 _ _ ?_)))
        refine WP_iff rfl ?_
        refine (WP_skip (thenQ_n (hK10 _ _ ?_)))
        refine WP_seq_k fun K15 hK15 => ?_
        refine WP_mix [.pure, .pure, .pure, .pure, .read, .pure, .pure, .read, .pure, .eff, .pure, .eff] mixed (by kernel_rfl) (by kernel_rfl) (by kernel_rfl) ?_
        have q3 : ¬ (a - t < 96 ∧ t - a < 96) := by omega
        refine XL_pure rfl rfl rfl (fun w' => Do_move (v := .pointer _) rfl) ?_
        refine XL_pure rfl rfl rfl (fun w' => Do_move (v := .pointer _) rfl) ?_
        refine XL_pure rfl rfl rfl (fun w' => Do_move (v := .pointer _) rfl) ?_
        refine XL_pure rfl rfl rfl (fun w' => Do_nilCheck rfl) ?_
        refine XL_read rfl rfl rfl (fun w' hw' => Do_loads (cs := bys (cut L (o + t.toNat) 96)) agg116 rfl sz116 (by rw [bys_length]; exact k2) (Blk.part (Sep.blk (i := 0) (Sep.sees H hw') rfl) (byr_part (by omega)))) ?_
        refine XL_pure rfl rfl rfl (fun w' => Do_move (v := .pointer _) rfl) ?_
        refine XL_pure rfl rfl rfl (fun w' => Do_nilCheck rfl) ?_
        refine XL_read rfl rfl rfl (fun w' hw' => Do_loads (cs := bys (cut L (o + a.toNat) 96)) agg116 rfl sz116 (by rw [bys_length]; exact k1) (Blk.part (Sep.blk (i := 0) (Sep.sees H hw') rfl) (byr_part (by omega)))) ?_
        refine XL_pure rfl rfl rfl (fun w' => Do_nilCheck rfl) ?_
        refine XL_exU rfl rfl (fun w' hw' => Ex_store sz116 (by rw [bys_length]; exact k2) rfl rfl (one_bys) (Sep.blk (i := 0) (Sep.sees H hw') rfl) (by rw [bys_length, byr_len]; omega)) ?_
        rintro w' w181 hw' hW
        replace H := (Sep.sees H hw').wr (i := 0) rfl hW
        replace H := H.conv (i := 0) rfl ((byr_splice (by omega)).trans rfl : _ = byr (lay L (o + a.toNat) (cut L (o + t.toNat) 96)) R_)
        refine XL_pure rfl rfl rfl (fun w' => Do_nilCheck rfl) ?_
        refine XL_exU rfl rfl (fun w' hw' => Ex_store sz116 (by rw [bys_length]; exact k1) rfl rfl (one_bys) (Sep.blk (i := 0) (Sep.sees H hw') rfl) (by rw [bys_length, byr_len]; omega)) ?_
        rintro w' w182 hw' hW
        replace H := (Sep.sees H hw').wr (i := 0) rfl hW
        replace H := H.conv (i := 0) rfl ((byr_splice (by omega)).trans rfl : _ = byr (swp L (o + a.toNat) (o + t.toNat)) R_)
        refine XL_nil fun w183 hS => ?_
        replace H := H.sees hS
        refine (thenQ_n (hK15 _ _ ?_))
        refine WP_seq_k fun K16 hK16 => ?_
        refine WP_region ?_
        refine RL_do rfl rfl (Do_assign rfl) ?_
        refine (RL_nil (thenQ_n (hK16 _ _ ?_)))
        refine (WP_ret (post1 (v1 := .int _ _) rfl rfl ?_))
        have q := swapE_4 (m := m) (show ¬ placeN m a 96 ≠ 0 by omega) (show ¬ placeN m t 96 ≠ 0 by omega) q3
        exact ⟨reti q.symm, H.only, by rw [if_pos q]; exact H.blk (i := 0) rfl⟩

/-- orangebox/frame.ClearFrame -/
theorem Clear_c (L : List Nat) (R_ : List Value) (hL : Byte L) (b o m c : Nat) (T : TypeId) (hl : o + m ≤ L.length) (hm : m ≤ c) (hc : c ≤ 9223372036854775807) (a : Int) (w : World) (hb : Blk w b (byr L R_) T) :
    Calls Tryd.prog 43 #[.slice (some ⟨b, o, none⟩) m c, .int .i64 a] w fun e w' => e = .returned (.int .i64 (placeN m a 96)) ∧ Only [b] w w' ∧ Blk w' b (byr (if placeN m a 96 = 0 then lay L (o + a.toNat) FFs else L) R_) T := by
  refine calls_of_WP (args := [.slice (some ⟨b, o, none⟩) m c, .int .i64 a]) 25 Tryd.func43 rfl rfl rfl ?_
  have H := Sep.start1 hb
  refine WP_seq_k fun K1 hK1 => ?_
  refine WP_region ?_
  refine RL_do rfl rfl (Do_assign rfl) ?_
  refine (RL_nil (thenQ_n (hK1 _ _ ?_)))
  refine WP_seq_k fun K2 hK2 => ?_
  refine WP_region ?_
  refine RL_do rfl rfl (Do_move (v := .slice _ _ _) rfl) ?_
  refine RL_do rfl rfl (Do_move (v := .int _ _) rfl) ?_
  refine RL_call rfl rfl (DoC_func en77 rfl) (inPlace_c _ m c a hm hc (fun _ => ⟨_, _, rfl⟩) w) ?_
  rintro _ w184 ⟨pv, rfl, hpv, hB⟩
  replace H := H.below hB
  refine ⟨_, rfl, ?_⟩
  refine RL_do rfl rfl (Do_move (v := .tuple _) rfl) ?_
  refine RL_do rfl rfl (Do_extract (v := .pointer _) rfl rfl) ?_
  refine RL_do rfl rfl (Do_extract (v := .int _ _) rfl rfl) ?_
  refine RL_do rfl rfl (Do_assign (v := .pointer _) rfl) ?_
  refine RL_do rfl rfl (Do_assign (v := .int _ _) rfl) ?_
  refine (RL_nil (thenQ_n (hK2 _ _ ?_)))
  refine WP_seq_k fun K3 hK3 => ?_
  refine WP_seq_k fun K4 hK4 => ?_
  refine WP_region ?_
  refine RL_do rfl rfl (Do_move (v := .int _ _) rfl) ?_
  refine RL_do rfl rfl (Do_neq rfl rfl) ?_
  refine (RL_nil (thenQ_n (hK4 _ _ ?_)))
  first | refine WP_if rfl (fun c1 => ?_) (fun c1 => ?_) | refine WP_ifb rfl (fun c1 => ?_) (fun c1 => ?_)
  · skip
    refine WP_seq_k fun K5 hK5 => ?_
    refine WP_region ?_
    refine RL_do rfl rfl (Do_move (v := .int _ _) rfl) ?_
    refine RL_do rfl rfl (Do_assign (v := .int _ _) rfl) ?_
    refine (RL_nil (thenQ_n (hK5 _ _ ?_)))
    refine (WP_ret (thenQ_r (post1 (v1 := .int _ _) rfl rfl ?_)))
    exact ⟨rfl, H.only, by rw [if_neg (by omega)]; exact H.blk (i := 0) rfl⟩
  · skip
    refine (WP_skip (thenQ_n (hK3 _ _ ?_)))
    refine WP_seq_k fun K6 hK6 => ?_
    refine WP_seq_k fun K7 hK7 => ?_
    refine WP_region ?_
    have q0 := placeN_0 (show placeN m a 96 = 0 by omega)
    obtain rfl := hpv (by omega)
    simp only [Option.map_some, Addr.add_none]
    refine RL_do rfl rfl (Do_move rfl) ?_
    refine (RL_nil (thenQ_n (hK7 _ _ ?_)))
    refine WP_block ?_
    refine WP_loopS [7, 17, 18, 19, 20, 21, 22, 23, 24] (fun (g : Nat) => [(17, .int .i64 (g : Nat))]) (fun (g : Nat) wl => Sep [b] w wl [.blk b (byr (clTo L (o + a.toNat) g) R_) T] ∧ g ≤ 96) (fun (g : Nat) => 96 - g) (0) (Sl_cons rfl Sl_nil) ⟨H, by decide⟩ ?_
    clear H
    rintro k ρ w185 ⟨H, hk⟩
    refine WP_seq_k fun K8 hK8 => ?_
    refine WP_region ?_
    refine RL_do rfl rfl (Do_lss rfl rfl) ?_
    refine (RL_nil (thenQ_n (hK8 _ _ ?_)))
    refine WP_seq_k fun K9 hK9 => ?_
    first | refine WP_if rfl (fun c2 => ?_) (fun c2 => ?_) | refine WP_ifb rfl (fun c2 => ?_) (fun c2 => ?_)
    · skip
      refine (WP_skip (thenQ_n (hK9 _ _ ?_)))
      refine WP_seq_k fun K10 hK10 => ?_
      refine WP_block ?_
      refine WP_seq_k fun K11 hK11 => ?_
      refine WP_region ?_
      refine RL_do rfl rfl (Do_move (v := .int _ _) rfl) ?_
      refine RL_do rfl rfl (Do_assign (v := .int _ _) rfl) ?_
      refine (RL_nil (thenQ_n (hK11 _ _ ?_)))
      refine WP_region ?_
      refine RL_do rfl rfl (Do_move (v := .pointer _) rfl) ?_
      refine RL_do rfl rfl (Do_move (v := .int _ _) rfl) ?_
      refine RL_do rfl rfl (Do_nilCheck rfl) ?_
      refine RL_do rfl rfl (Do_idxa1 u116 sz5 rfl rfl (by omega) (by omega) (by omega : _ = k) (by first | exact Nat.zero_add _ | rfl)) ?_
      refine RL_exU rfl (Ex_store1 sz5 rfl rfl rfl (Sep.blk (i := 0) H rfl) (by rw [byr_len, clTo_len]; omega)) ?_
      rintro w186 hW
      replace H := H.wr (i := 0) rfl hW
      replace H := H.conv (i := 0) rfl (byr_setI _ _ _ (by rw [clTo_len]; omega) (n := 255) rfl)
      refine (RL_nil (blockQ_n (thenQ_n (hK10 _ _ ?_))))
      refine WP_region ?_
      refine RL_do rfl rfl (Do_add rfl rfl (wrap_i64 (by omega) (by omega))) ?_
      refine RL_do rfl rfl (Do_move (v := .int _ _) rfl) ?_
      refine (RL_nil (thenQ_n (And.intro ?_ ?_)))
      · repeat' (first | with_reducible exact Fr_refl | refine Fr_upd rfl ?_ | refine Fr_over rfl rfl ?_)
      · refine ⟨k + 1, (Sl_cons (by first | rfl | exact congrArg (Value.int _) (by omega)) Sl_nil), ?_, ?_⟩
        · exact ⟨H, by omega⟩
        · simp; omega
    · skip
      refine (WP_exit (thenQ_x (thenQ_x (blockQ_eq (thenQ_n (hK6 _ _ ?_))))))
      refine WP_seq_k fun K12 hK12 => ?_
      refine WP_region ?_
      (obtain rfl : k = 96 := by omega)
      replace H := H.conv (i := 0) rfl (congrArg (fun l => byr l R_) (clTo_eq rfl (by omega)))
      refine RL_do rfl rfl (Do_assign rfl) ?_
      refine (RL_nil (thenQ_n (hK12 _ _ ?_)))
      refine (WP_ret (post1 (v1 := .int _ _) rfl rfl ?_))
      exact ⟨reti (by omega), H.only, by rw [if_pos (by omega)]; exact H.blk (i := 0) rfl⟩
end Go.Proofs.YtafgmocdnjdmoaaDoor
