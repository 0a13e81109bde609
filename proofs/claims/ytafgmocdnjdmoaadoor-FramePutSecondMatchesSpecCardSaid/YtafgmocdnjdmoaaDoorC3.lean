/- What the walks and the laws stand on; no condition but those that stand in the statements. -/
import Derived.Test.YtafgmocdnjdmoaaDoorRows
import Derived.Test.YtafgmocdnjdmoaaDoorC2
namespace Go.Proofs.YtafgmocdnjdmoaaDoor
open Go.RowKit Go.OB Go.Fr1
theorem u22 : Tryd.prog.underlying 22 = some (.slice 5) := Tryd.underlying22
theorem u116 : Tryd.prog.underlying 116 = some (.array 96 5) := Tryd.underlying116
theorem sz5 : Sz Tryd.prog 5 1 := by unfold Sz; kernel_rfl
theorem one5 : OneC Tryd.prog 5 := by unfold OneC; kernel_rfl
theorem en77 : Enters Tryd.prog 77 := ⟨_, Tryd.func77, rfl, by kernel_rfl⟩
theorem en78 : Enters Tryd.prog 78 := ⟨_, Tryd.func78, rfl, by kernel_rfl⟩
theorem en79 : Enters Tryd.prog 79 := ⟨_, Tryd.func79, rfl, by kernel_rfl⟩
theorem en82 : Enters Tryd.prog 82 := ⟨_, Tryd.func82, rfl, by kernel_rfl⟩
theorem en95 : Enters Tryd.prog 95 := ⟨_, Tryd.func95, rfl, by kernel_rfl⟩
/-- orangebox/frame.checkPlace -/
theorem checkPlace_c (va : Option Addr) (m vc : Nat) (a n : Int) (hm : m ≤ 9223372036854775807) (hn : 0 ≤ n) (hn2 : n ≤ 1000) (w : World) :
    Calls Tryd.prog 95 #[.slice va m vc, .int .i64 a, .int .i64 n] w fun e w' => e = .returned (.int .i64 (placeN m a n)) ∧ Below w.heap.size w w' := by
  refine calls_of_WP (args := [.slice va m vc, .int .i64 a, .int .i64 n]) 17 Tryd.func95 rfl rfl rfl ?_
  have H := Sep.start [] w
  refine WP_seq_k fun K1 hK1 => ?_
  refine WP_region ?_
  refine RL_do rfl rfl (Do_assign rfl) ?_
  refine (RL_nil (thenQ_n (hK1 _ _ ?_)))
  refine WP_seq_k fun K2 hK2 => ?_
  refine WP_block ?_
  refine WP_seq_k fun K3 hK3 => ?_
  refine WP_region ?_
  refine RL_do rfl rfl (Do_move (v := .int _ _) rfl) ?_
  refine RL_do rfl rfl (Do_lss rfl rfl) ?_
  refine RL_do rfl rfl (Do_assign (v := .bool _) rfl) ?_
  refine (RL_nil (thenQ_n (hK3 _ _ ?_)))
  first | refine WP_if rfl (fun c1 => ?_) (fun c1 => ?_) | refine WP_ifb rfl (fun c1 => ?_) (fun c1 => ?_)
  · skip
    refine WP_seq_k fun K4 hK4 => ?_
    refine WP_region ?_
    refine RL_do rfl rfl (Do_assign rfl) ?_
    refine (RL_nil (thenQ_n (hK4 _ _ ?_)))
    refine (WP_ret (blockQ_r (thenQ_r (post1 (v1 := .int _ _) rfl rfl ?_))))
    exact ⟨reti (placeN_1 (by omega)).symm, H.kept⟩
  · skip
    refine WP_seq_k fun K5 hK5 => ?_
    refine WP_region ?_
    refine RL_do rfl rfl (Do_move (v := .int _ _) rfl) ?_
    refine RL_do rfl rfl (Do_move (v := .slice _ _ _) rfl) ?_
    refine RL_do rfl rfl (Do_len u22 rfl) ?_
    refine RL_do rfl rfl (Do_move (v := .int _ _) rfl) ?_
    refine RL_do rfl rfl (Do_sub rfl rfl (wrap_i64 (by omega) (by omega))) ?_
    refine RL_do rfl rfl (Do_gtr rfl rfl) ?_
    refine RL_do rfl rfl (Do_assign (v := .bool _) rfl) ?_
    refine (RL_nil (thenQ_n (hK5 _ _ ?_)))
    first | refine WP_if rfl (fun c2 => ?_) (fun c2 => ?_) | refine WP_ifb rfl (fun c2 => ?_) (fun c2 => ?_)
    · skip
      refine WP_seq_k fun K6 hK6 => ?_
      refine WP_region ?_
      refine RL_do rfl rfl (Do_assign rfl) ?_
      refine (RL_nil (thenQ_n (hK6 _ _ ?_)))
      refine (WP_ret (blockQ_r (thenQ_r (post1 (v1 := .int _ _) rfl rfl ?_))))
      exact ⟨reti (placeN_2 (by omega) (by omega)).symm, H.kept⟩
    · skip
      refine (WP_skip (blockQ_n (thenQ_n (hK2 _ _ ?_))))
      refine WP_seq_k fun K7 hK7 => ?_
      refine WP_region ?_
      refine RL_do rfl rfl (Do_assign rfl) ?_
      refine (RL_nil (thenQ_n (hK7 _ _ ?_)))
      refine (WP_ret (post1 (v1 := .int _ _) rfl rfl ?_))
      exact ⟨reti (placeN_3 (by omega) (by omega)).symm, H.kept⟩

/-- orangebox/frame.inPlace -/
theorem inPlace_c (va : Option Addr) (m vc : Nat) (a : Int) (hm : m ≤ vc) (hc : vc ≤ 9223372036854775807) (hv : 0 < m → ∃ b o, va = some ⟨b, o, none⟩) (w : World) :
    Calls Tryd.prog 77 #[.slice va m vc, .int .i64 a] w fun e w' => ∃ pv, e = .returned (.tuple #[.pointer pv, .int .i64 (placeN m a 96)]) ∧ (placeN m a 96 = 0 → pv = va.map fun x => x.add a.toNat) ∧ Below w.heap.size w w' := by
  refine calls_of_WP (args := [.slice va m vc, .int .i64 a]) 19 Tryd.func77 rfl rfl rfl ?_
  have H := Sep.start [] w
  refine WP_seq_k fun K1 hK1 => ?_
  refine WP_region ?_
  refine RL_do rfl rfl (Do_assign rfl) ?_
  refine RL_do rfl rfl (Do_assign rfl) ?_
  refine (RL_nil (thenQ_n (hK1 _ _ ?_)))
  refine WP_seq_k fun K2 hK2 => ?_
  refine WP_seq_k fun K3 hK3 => ?_
  refine WP_region ?_
  refine RL_do rfl rfl (Do_move (v := .slice _ _ _) rfl) ?_
  refine RL_do rfl rfl (Do_move (v := .int _ _) rfl) ?_
  refine RL_call rfl rfl (DoC_func en95 rfl) (checkPlace_c _ _ _ a 96 (by omega) (by omega) (by omega) w) ?_
  rintro _ w34 ⟨rfl, hB⟩
  replace H := H.below hB
  refine ⟨_, rfl, ?_⟩
  refine RL_do rfl rfl (Do_assign (v := .int _ _) rfl) ?_
  refine (RL_nil (thenQ_n (hK3 _ _ ?_)))
  refine WP_seq_k fun K4 hK4 => ?_
  refine WP_region ?_
  refine RL_do rfl rfl (Do_move (v := .int _ _) rfl) ?_
  refine RL_do rfl rfl (Do_neq rfl rfl) ?_
  refine (RL_nil (thenQ_n (hK4 _ _ ?_)))
  first | refine WP_if rfl (fun c1 => ?_) (fun c1 => ?_) | refine WP_ifb rfl (fun c1 => ?_) (fun c1 => ?_)
  · skip
    refine WP_seq_k fun K5 hK5 => ?_
    refine WP_region ?_
    refine RL_do rfl rfl (Do_move (v := .int _ _) rfl) ?_
    refine RL_do rfl rfl (Do_assign rfl) ?_
    refine RL_do rfl rfl (Do_assign (v := .int _ _) rfl) ?_
    refine (RL_nil (thenQ_n (hK5 _ _ ?_)))
    refine (WP_ret (thenQ_r (post2 (v1 := .pointer _) (v2 := .int _ _) rfl rfl rfl ?_)))
    exact ⟨_, rfl, fun h => absurd h (by omega), H.kept⟩
  · skip
    refine (WP_skip (thenQ_n (hK2 _ _ ?_)))
    refine WP_seq_k fun K6 hK6 => ?_
    refine WP_region ?_
    have q0 := placeN_0 (show placeN m a 96 = 0 by omega)
    obtain ⟨b, o, rfl⟩ := hv (by omega)
    refine RL_do rfl rfl (Do_move (v := .slice _ _ _) rfl) ?_
    refine RL_do rfl rfl (Do_move (v := .int _ _) rfl) ?_
    refine RL_do rfl rfl (Do_move (v := .int _ _) rfl) ?_
    refine RL_do rfl rfl (Do_add rfl rfl (wrap_i64 (by omega) (by omega))) ?_
    refine RL_do rfl rfl (Do_slice_in u22 sz5 (i := a.toNat) (j := 96) rfl rfl rfl (by omega) (by omega) (by omega) (by omega) (by rw [Nat.mul_one])) ?_
    refine RL_do rfl rfl (Do_toArr u116 rfl (Nat.le_refl _)) ?_
    refine RL_do rfl rfl (Do_assign (v := .pointer _) rfl) ?_
    refine RL_do rfl rfl (Do_assign rfl) ?_
    refine (RL_nil (thenQ_n (hK6 _ _ ?_)))
    refine (WP_ret (post2 (v1 := .pointer _) (v2 := .int _ _) rfl rfl rfl ?_))
    exact ⟨some ⟨b, o + a.toNat, none⟩, by rw [show placeN m a 96 = 0 by omega], fun _ => by simp [Addr.add_none], H.kept⟩

/-- orangebox/frame.setWordIn -/
theorem setW_c (L : List Nat) (R_ : List Value) (hL : Byte L) (b o : Nat) (T : TypeId) (hl : o + 96 ≤ L.length) (ix : Int) (i : Nat) (hix : ix = i) (hi : i < 64) (x : Int) (wv : Nat) (hx : x = wv) (hw : wv < 4096) (w : World) (hb : Blk w b (byr L R_) T) :
    Calls Tryd.prog 82 #[.pointer (some ⟨b, o, none⟩), .int .i64 ix, .int .u16 x] w fun e w' => e = .returned (.tuple #[]) ∧ Only [b] w w' ∧ Blk w' b (byr (setW L o i wv) R_) T := by
  have q1 := hL (o + (i / 2 * 3 + 1))
  refine calls_of_WP (args := [.pointer (some ⟨b, o, none⟩), .int .i64 ix, .int .u16 x]) 60 Tryd.func82 rfl rfl rfl ?_
  have H := Sep.start1 hb
  refine WP_seq_k fun K1 hK1 => ?_
  refine WP_region ?_
  refine RL_do rfl rfl (Do_move (v := .int _ _) rfl) ?_
  refine RL_do rfl rfl (Do_quo rfl rfl (by omega) (by omega) (wrap_i64 (by omega) (by omega))) ?_
  refine RL_do rfl rfl (Do_mul rfl rfl (wrap_i64 (by omega) (by omega))) ?_
  refine RL_do rfl rfl (Do_assign (v := .int _ _) rfl) ?_
  refine (RL_nil (thenQ_n (hK1 _ _ ?_)))
  refine WP_seq_k fun K2 hK2 => ?_
  refine WP_seq_k fun K3 hK3 => ?_
  refine WP_region ?_
  refine RL_do rfl rfl (Do_move (v := .int _ _) rfl) ?_
  refine RL_do rfl rfl (Do_rem rfl rfl (by omega) (by omega)) ?_
  refine RL_do rfl rfl (Do_eql rfl rfl) ?_
  refine (RL_nil (thenQ_n (hK3 _ _ ?_)))
  first | refine WP_if rfl (fun c1 => ?_) (fun c1 => ?_) | refine WP_ifb rfl (fun c1 => ?_) (fun c1 => ?_)
  · skip
    refine WP_seq_k fun K4 hK4 => ?_
    refine WP_mix [.pure, .pure, .pure, .pure, .pure, .pure, .pure, .pure, .pure, .pure, .pure, .pure, .pure, .pure, .pure, .pure, .pure, .read, .pure, .pure, .pure, .pure, .eff, .pure, .pure, .eff] mixed (by kernel_rfl) (by kernel_rfl) (by kernel_rfl) ?_
    refine XL_pure rfl rfl rfl (fun w' => Do_move (v := .pointer _) rfl) ?_
    refine XL_pure rfl rfl rfl (fun w' => Do_move (v := .int _ _) rfl) ?_
    refine XL_pure rfl rfl rfl (fun w' => Do_move (v := .pointer _) rfl) ?_
    refine XL_pure rfl rfl rfl (fun w' => Do_move (v := .int _ _) rfl) ?_
    refine XL_pure rfl rfl rfl (fun w' => Do_add rfl rfl (wrap_i64 (by omega) (by omega))) ?_
    refine XL_pure rfl rfl rfl (fun w' => Do_move (v := .int _ _) rfl) ?_
    refine XL_pure rfl rfl rfl (fun w' => Do_shr rfl rfl (by decide) (by decide) (rfl : _ = (16 : Int))) ?_
    refine XL_pure rfl rfl rfl (fun w' => Do_conv u23 u5 rfl (wrap_u8 (by omega) (by omega))) ?_
    refine XL_pure rfl rfl rfl (fun w' => Do_move (v := .int _ _) rfl) ?_
    refine XL_pure rfl rfl rfl (fun w' => Do_and rfl rfl (mask_u16 4 (by decide) (rfl : _ = (16 : Int)) (by omega) (by omega))) ?_
    refine XL_pure rfl rfl rfl (fun w' => Do_shl rfl rfl (by decide) (by decide) (rfl : _ = (16 : Int)) (wrap_u16 (by omega) (by omega))) ?_
    refine XL_pure rfl rfl rfl (fun w' => Do_conv u23 u5 rfl (wrap_u8 (by omega) (by omega))) ?_
    refine XL_pure rfl rfl rfl (fun w' => Do_move (v := .pointer _) rfl) ?_
    refine XL_pure rfl rfl rfl (fun w' => Do_move (v := .int _ _) rfl) ?_
    refine XL_pure rfl rfl rfl (fun w' => Do_add rfl rfl (wrap_i64 (by omega) (by omega))) ?_
    refine XL_pure rfl rfl rfl (fun w' => Do_nilCheck rfl) ?_
    refine XL_pure rfl rfl rfl (fun w' => Do_idxa1 u116 sz5 rfl rfl (by omega) (by omega) (by omega : _ = i / 2 * 3 + 1) (by first | exact Nat.zero_add _ | rfl)) ?_
    refine XL_read rfl rfl rfl (fun w' hw' => Do_load one5 rfl (Blk.cell (Sep.blk (i := 0) (Sep.sees H hw') rfl) (byr_get (by omega)))) ?_
    refine XL_pure rfl rfl rfl (fun w' => Do_and rfl rfl (mask_u8 4 (by decide) (rfl : _ = (16 : Int)) (by omega) (by omega))) ?_
    refine XL_pure rfl rfl rfl (fun w' => Do_or rfl rfl (join_u8 4 (rfl : _ = (16 : Int)) (by omega) (by omega) (by omega) (by omega) (by omega) (by omega))) ?_
    refine XL_pure rfl rfl rfl (fun w' => Do_nilCheck rfl) ?_
    refine XL_pure rfl rfl rfl (fun w' => Do_idxa1 u116 sz5 rfl rfl (by omega) (by omega) (by omega : _ = i / 2 * 3) (by first | exact Nat.zero_add _ | rfl)) ?_
    refine XL_exU rfl rfl (fun w' hw' => Ex_store1 sz5 rfl rfl rfl (Sep.blk (i := 0) (Sep.sees H hw') rfl) (by rw [byr_len]; omega)) ?_
    rintro w' w35 hw' hW
    replace H := (Sep.sees H hw').wr (i := 0) rfl hW
    replace H := H.conv (i := 0) rfl (byr_setI _ _ _ (by omega) (n := wv / 16) (by omega))
    refine XL_pure rfl rfl rfl (fun w' => Do_nilCheck rfl) ?_
    refine XL_pure rfl rfl rfl (fun w' => Do_idxa1 u116 sz5 rfl rfl (by omega) (by omega) (by omega : _ = i / 2 * 3 + 1) (by first | exact Nat.zero_add _ | rfl)) ?_
    refine XL_exU rfl rfl (fun w' hw' => Ex_store1 sz5 rfl rfl rfl (Sep.blk (i := 0) (Sep.sees H hw') rfl) (by simp [byr_len]; omega)) ?_
    rintro w' w36 hw' hW
    replace H := (Sep.sees H hw').wr (i := 0) rfl hW
    replace H := H.conv (i := 0) rfl (byr_setI _ _ _ (by simp; omega) (n := wv % 16 * 16 + wd L (o + (i / 2 * 3 + 1)) % 16) (by omega))
    refine XL_nil fun w37 hS => ?_
    replace H := H.sees hS
    refine (thenQ_n (hK4 _ _ ?_))
    refine (WP_ret (thenQ_r (post0 rfl ?_)))
    exact ⟨rfl, H.only, by rw [setW_even (by omega)]; exact H.blk (i := 0) rfl⟩
  · skip
    refine (WP_skip (thenQ_n (hK2 _ _ ?_)))
    refine WP_mix [.pure, .pure, .pure, .pure, .pure, .pure, .pure, .pure, .pure, .pure, .pure, .read, .pure, .pure, .pure, .pure, .pure, .pure, .pure, .pure, .pure, .eff, .pure, .pure, .eff] mixed (by kernel_rfl) (by kernel_rfl) (by kernel_rfl) ?_
    refine XL_pure rfl rfl rfl (fun w' => Do_move (v := .pointer _) rfl) ?_
    refine XL_pure rfl rfl rfl (fun w' => Do_move (v := .int _ _) rfl) ?_
    refine XL_pure rfl rfl rfl (fun w' => Do_add rfl rfl (wrap_i64 (by omega) (by omega))) ?_
    refine XL_pure rfl rfl rfl (fun w' => Do_move (v := .pointer _) rfl) ?_
    refine XL_pure rfl rfl rfl (fun w' => Do_move (v := .int _ _) rfl) ?_
    refine XL_pure rfl rfl rfl (fun w' => Do_add rfl rfl (wrap_i64 (by omega) (by omega))) ?_
    refine XL_pure rfl rfl rfl (fun w' => Do_move (v := .pointer _) rfl) ?_
    refine XL_pure rfl rfl rfl (fun w' => Do_move (v := .int _ _) rfl) ?_
    refine XL_pure rfl rfl rfl (fun w' => Do_add rfl rfl (wrap_i64 (by omega) (by omega))) ?_
    refine XL_pure rfl rfl rfl (fun w' => Do_nilCheck rfl) ?_
    refine XL_pure rfl rfl rfl (fun w' => Do_idxa1 u116 sz5 rfl rfl (by omega) (by omega) (by omega : _ = i / 2 * 3 + 1) (by first | exact Nat.zero_add _ | rfl)) ?_
    refine XL_read rfl rfl rfl (fun w' hw' => Do_load one5 rfl (Blk.cell (Sep.blk (i := 0) (Sep.sees H hw') rfl) (byr_get (by omega)))) ?_
    refine XL_pure rfl rfl rfl (fun w' => Do_and rfl rfl (and_240 q1)) ?_
    refine XL_pure rfl rfl rfl (fun w' => Do_move (v := .int _ _) rfl) ?_
    refine XL_pure rfl rfl rfl (fun w' => Do_shr rfl rfl (by decide) (by decide) (rfl : _ = (256 : Int))) ?_
    refine XL_pure rfl rfl rfl (fun w' => Do_conv u23 u5 rfl (wrap_u8 (by omega) (by omega))) ?_
    refine XL_pure rfl rfl rfl (fun w' => Do_or rfl rfl (join_u8 4 (rfl : _ = (16 : Int)) (by omega) (by omega) (by omega) (by omega) (by omega) (by omega))) ?_
    refine XL_pure rfl rfl rfl (fun w' => Do_move (v := .int _ _) rfl) ?_
    refine XL_pure rfl rfl rfl (fun w' => Do_conv u23 u5 rfl (c := ((wv % 256 : Nat) : Int)) (by rw [IntKind.wrap_u8]; omega)) ?_
    refine XL_pure rfl rfl rfl (fun w' => Do_nilCheck rfl) ?_
    refine XL_pure rfl rfl rfl (fun w' => Do_idxa1 u116 sz5 rfl rfl (by omega) (by omega) (by omega : _ = i / 2 * 3 + 1) (by first | exact Nat.zero_add _ | rfl)) ?_
    refine XL_exU rfl rfl (fun w' hw' => Ex_store1 sz5 rfl rfl rfl (Sep.blk (i := 0) (Sep.sees H hw') rfl) (by rw [byr_len]; omega)) ?_
    rintro w' w38 hw' hW
    replace H := (Sep.sees H hw').wr (i := 0) rfl hW
    replace H := H.conv (i := 0) rfl (byr_setI _ _ _ (by omega) (n := wd L (o + (i / 2 * 3 + 1)) / 16 * 16 + wv / 256) (by omega))
    refine XL_pure rfl rfl rfl (fun w' => Do_nilCheck rfl) ?_
    refine XL_pure rfl rfl rfl (fun w' => Do_idxa1 u116 sz5 rfl rfl (by omega) (by omega) (by omega : _ = i / 2 * 3 + 2) (by first | exact Nat.zero_add _ | rfl)) ?_
    refine XL_exU rfl rfl (fun w' hw' => Ex_store1 sz5 rfl rfl rfl (Sep.blk (i := 0) (Sep.sees H hw') rfl) (by simp [byr_len]; omega)) ?_
    rintro w' w39 hw' hW
    replace H := (Sep.sees H hw').wr (i := 0) rfl hW
    replace H := H.conv (i := 0) rfl (byr_setI _ _ _ (by simp; omega) (n := wv % 256) (by omega))
    refine XL_nil fun w40 hS => ?_
    replace H := H.sees hS
    refine (post0n rfl ?_)
    exact ⟨rfl, H.only, by rw [setW_odd (by omega)]; exact H.blk (i := 0) rfl⟩

/-- orangebox/frame.save -/
theorem save_c (L : List Nat) (R_ : List Value) (hL : Byte L) (b o : Nat) (T : TypeId) (hl : o + 96 ≤ L.length) (f : List Nat) (hf : f.length = 64) (hs : ∀ i, wd f i < 4096) (bf of_ : Nat) (hne : bf ≠ b) (w : World) (hb : Blk w b (byr L R_) T) (hc : Cells w ⟨bf, of_, none⟩ (wds f)) :
    Calls Tryd.prog 79 #[.pointer (some ⟨b, o, none⟩), .pointer (some ⟨bf, of_, none⟩)] w fun e w' => e = .returned (.tuple #[]) ∧ Only [b] w w' ∧ Blk w' b (byr (saveN L o f) R_) T := by
  refine calls_of_WP (args := [.pointer (some ⟨b, o, none⟩), .pointer (some ⟨bf, of_, none⟩)]) 17 Tryd.func79 rfl rfl rfl ?_
  have H := Sep.start1 hb
  refine WP_seq_k fun K1 hK1 => ?_
  refine WP_region ?_
  refine RL_do rfl rfl (Do_move rfl) ?_
  refine (RL_nil (thenQ_n (hK1 _ _ ?_)))
  refine WP_block ?_
  refine WP_loopS [4, 5, 6, 7, 8, 9, 10, 11, 12, 13, 14, 15, 16] (fun (g : Nat) => [(5, .int .i64 (g : Nat))]) (fun (g : Nat) wl => Sep [b] w wl [.blk b (byr (saveTo L o f g) R_) T] ∧ g ≤ 64) (fun (g : Nat) => 64 - g) (0) (Sl_cons rfl Sl_nil) ⟨H, by decide⟩ ?_
  clear H
  rintro k ρ w41 ⟨H, hk⟩
  refine WP_seq_k fun K2 hK2 => ?_
  refine WP_region ?_
  refine RL_do rfl rfl (Do_lss rfl rfl) ?_
  refine (RL_nil (thenQ_n (hK2 _ _ ?_)))
  refine WP_seq_k fun K3 hK3 => ?_
  first | refine WP_if rfl (fun c1 => ?_) (fun c1 => ?_) | refine WP_ifb rfl (fun c1 => ?_) (fun c1 => ?_)
  · skip
    refine (WP_skip (thenQ_n (hK3 _ _ ?_)))
    refine WP_seq_k fun K4 hK4 => ?_
    refine WP_block ?_
    refine WP_seq_k fun K5 hK5 => ?_
    refine WP_region ?_
    refine RL_do rfl rfl (Do_move (v := .int _ _) rfl) ?_
    refine RL_do rfl rfl (Do_assign (v := .int _ _) rfl) ?_
    refine (RL_nil (thenQ_n (hK5 _ _ ?_)))
    refine WP_region ?_
    refine RL_do rfl rfl (Do_move (v := .pointer _) rfl) ?_
    refine RL_do rfl rfl (Do_move (v := .int _ _) rfl) ?_
    refine RL_do rfl rfl (Do_move (v := .pointer _) rfl) ?_
    refine RL_do rfl rfl (Do_move (v := .int _ _) rfl) ?_
    refine RL_do rfl rfl (Do_nilCheck rfl) ?_
    refine RL_do rfl rfl (Do_idxa1 u25 sz23 rfl rfl (by omega) (by omega) (by omega : _ = k) (by first | exact Nat.zero_add _ | rfl)) ?_
    refine RL_do rfl rfl (Do_load one23 rfl (Cells.get (hc.only (Sep.only H) (by simpa using hne)) (wds_get (by omega)))) ?_
    refine RL_call rfl rfl (DoC_func en82 rfl) (setW_c (saveTo L o f k) R_ (saveTo_byte hL o hs k) _ _ _ (by rw [saveTo_len]; omega) _ k rfl (by omega) _ (wd f k) rfl (hs k) w41 (Sep.blk (i := 0) H rfl)) ?_
    rintro _ w42 ⟨rfl, hO, hB⟩
    replace H := H.write (i := 0) rfl hB hO
    refine ⟨_, rfl, ?_⟩
    refine (RL_nil (blockQ_n (thenQ_n (hK4 _ _ ?_))))
    refine WP_region ?_
    refine RL_do rfl rfl (Do_add rfl rfl (wrap_i64 (by omega) (by omega))) ?_
    refine RL_do rfl rfl (Do_move (v := .int _ _) rfl) ?_
    refine (RL_nil (thenQ_n (And.intro ?_ ?_)))
    · repeat' (first | with_reducible exact Fr_refl | refine Fr_upd rfl ?_ | refine Fr_over rfl rfl ?_)
    · refine ⟨k + 1, (Sl_cons (by first | rfl | exact congrArg (Value.int _) (by omega)) Sl_nil), ?_, ?_⟩
      · exact ⟨H, by omega⟩
      · simp; omega
  · skip
    refine (WP_exit (thenQ_x (thenQ_x (blockQ_eq (post0n rfl ?_)))))
    obtain rfl : k = 64 := by omega
    exact ⟨rfl, H.only, by rw [← saveN_eq rfl]; exact H.blk (i := 0) rfl⟩

/-- orangebox/frame.Put -/
theorem Put_c (L : List Nat) (R_ : List Value) (hL : Byte L) (b o m c : Nat) (T : TypeId) (hl : o + m ≤ L.length) (hm : m ≤ c) (hc : c ≤ 9223372036854775807) (a : Int) (f : List Nat) (hf : f.length = 64) (hs : Small f) (w : World) (hb : Blk w b (byr L R_) T) :
    Calls Tryd.prog 18 #[.slice (some ⟨b, o, none⟩) m c, .int .i64 a, .agg (wds f).toArray] w fun e w' => e = .returned (.int .i64 (putE m a f)) ∧ Only [b] w w' ∧ Blk w' b (byr (putL L o m a f) R_) T := by
  refine calls_of_WP (args := [.slice (some ⟨b, o, none⟩) m c, .int .i64 a, .agg (wds f).toArray]) 21 Tryd.func18 rfl rfl rfl ?_
  have H := Sep.start1 hb
  refine WP_seq_k fun K1 hK1 => ?_
  refine WP_region ?_
  refine RL_ex rfl rfl (Ex_box rfl) ?_
  rintro _ w43 ⟨b3, rfl, hA⟩
  replace H := H.alloc hA
  refine RL_do rfl rfl (Do_assign rfl) ?_
  refine (RL_nil (thenQ_n (hK1 _ _ ?_)))
  refine WP_seq_k fun K2 hK2 => ?_
  refine WP_region ?_
  refine RL_do rfl rfl (Do_move (v := .slice _ _ _) rfl) ?_
  refine RL_do rfl rfl (Do_move (v := .int _ _) rfl) ?_
  refine RL_call rfl rfl (DoC_func en77 rfl) (inPlace_c _ m c a hm hc (fun _ => ⟨_, _, rfl⟩) w43) ?_
  rintro _ w44 ⟨pv, rfl, hpv, hB⟩
  replace H := H.below hB
  refine ⟨_, rfl, ?_⟩
  refine RL_do rfl rfl (Do_move (v := .tuple _) rfl) ?_
  refine RL_do rfl rfl (Do_extract (v := .pointer _) rfl rfl) ?_
  refine RL_do rfl rfl (Do_extract (v := .int _ _) rfl rfl) ?_
  refine RL_do rfl rfl (Do_assign (v := .pointer _) rfl) ?_
  refine RL_do rfl rfl (Do_assign (v := .int _ _) rfl) ?_
  refine (RL_nil (thenQ_n (hK2 _ _ ?_)))
  refine WP_seq_k fun K3 hK3 => ?_
  refine WP_seq_k fun K4 hK4 => ?_
  refine WP_region ?_
  refine RL_do rfl rfl (Do_move (v := .int _ _) rfl) ?_
  refine RL_do rfl rfl (Do_neq rfl rfl) ?_
  refine (RL_nil (thenQ_n (hK4 _ _ ?_)))
  first | refine WP_if rfl (fun c1 => ?_) (fun c1 => ?_) | refine WP_ifb rfl (fun c1 => ?_) (fun c1 => ?_)
  · skip
    refine WP_seq_k fun K5 hK5 => ?_
    refine WP_region ?_
    refine RL_do rfl rfl (Do_move (v := .int _ _) rfl) ?_
    refine RL_do rfl rfl (Do_assign (v := .int _ _) rfl) ?_
    refine (RL_nil (thenQ_n (hK5 _ _ ?_)))
    refine (WP_ret (thenQ_r (post1 (v1 := .int _ _) rfl rfl ?_)))
    have q := put_1 (f := f) L o c1
    exact ⟨reti q.1.symm, H.only, by rw [q.2]; exact H.blk (i := 0) rfl⟩
  · skip
    refine (WP_skip (thenQ_n (hK3 _ _ ?_)))
    refine WP_seq_k fun K6 hK6 => ?_
    refine WP_seq_k fun K7 hK7 => ?_
    refine WP_region ?_
    have q0 := placeN_0 (show placeN m a 96 = 0 by omega)
    obtain rfl := hpv (by omega)
    simp only [Option.map_some, Addr.add_none]
    refine RL_call rfl rfl (DoC_func en78 rfl) (wide_c f hf hs _ 0 w44 (Blk.cells (Sep.blk (i := 1) H rfl))) ?_
    rintro _ w45 ⟨rfl, hB⟩
    replace H := H.below hB
    refine ⟨_, rfl, ?_⟩
    refine (RL_nil (thenQ_n (hK7 _ _ ?_)))
    first | refine WP_if rfl (fun c2 => ?_) (fun c2 => ?_) | refine WP_ifb rfl (fun c2 => ?_) (fun c2 => ?_)
    · skip
      refine WP_seq_k fun K8 hK8 => ?_
      refine WP_region ?_
      refine RL_do rfl rfl (Do_assign rfl) ?_
      refine (RL_nil (thenQ_n (hK8 _ _ ?_)))
      refine (WP_ret (thenQ_r (post1 (v1 := .int _ _) rfl rfl ?_)))
      have q := put_2 (f := f) L o c1 (by assumption)
      exact ⟨reti q.1.symm, H.only, by rw [q.2]; exact H.blk (i := 0) rfl⟩
    · skip
      refine (WP_skip (thenQ_n (hK6 _ _ ?_)))
      refine WP_seq_k fun K9 hK9 => ?_
      refine WP_region ?_
      have q1 : ¬ wideN f := by assumption
      refine RL_do rfl rfl (Do_move (v := .pointer _) rfl) ?_
      refine RL_call rfl rfl (DoC_func en79 rfl) (save_c L R_ hL b (o + a.toNat) T (by omega) f hf (notwide hf q1) _ 0 (Sep.ne (i := 1) (j := 0) H rfl rfl rfl) w45 (Sep.blk (i := 0) H rfl) (Blk.cells (Sep.blk (i := 1) H rfl))) ?_
      rintro _ w46 ⟨rfl, hO, hB⟩
      replace H := H.write (i := 0) rfl hB hO
      refine ⟨_, rfl, ?_⟩
      refine (RL_nil (thenQ_n (hK9 _ _ ?_)))
      refine WP_seq_k fun K10 hK10 => ?_
      refine WP_region ?_
      refine RL_do rfl rfl (Do_assign rfl) ?_
      refine (RL_nil (thenQ_n (hK10 _ _ ?_)))
      refine (WP_ret (post1 (v1 := .int _ _) rfl rfl ?_))
      have q := put_3 (f := f) L o c1 q1
      exact ⟨reti q.1.symm, H.only, by rw [q.2]; exact H.blk (i := 0) rfl⟩
end Go.Proofs.YtafgmocdnjdmoaaDoor
