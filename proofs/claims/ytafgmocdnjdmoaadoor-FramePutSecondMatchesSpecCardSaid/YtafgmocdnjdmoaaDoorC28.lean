/- What the walks and the laws stand on; no condition but those that stand in the statements. -/
import Derived.Test.YtafgmocdnjdmoaaDoorRows
import Derived.Test.YtafgmocdnjdmoaaDoorC12
import Derived.Test.YtafgmocdnjdmoaaDoorD5
namespace Go.Proofs.YtafgmocdnjdmoaaDoor
open Go.RowKit Go.OB Go.Fr1
theorem u56 : Tryd.prog.underlying 56 = some (.array 8 25) := Tryd.underlying56
/-- orangebox/frame.PutSecond -/
theorem Put2_c (L : List Nat) (R_ : List Value) (hL : Byte L) (b o m c : Nat) (T : TypeId) (hl : o + m ≤ L.length) (hm : m ≤ c) (hc : c ≤ 9223372036854775807) (a : Int) (G : List Nat) (hG : G.length = 512) (hs : Small G) (w : World) (hb : Blk w b (byr L R_) T) :
    Calls Tryd.prog 39 #[.slice (some ⟨b, o, none⟩) m c, .int .i64 a, .agg (wds G).toArray] w fun e w' => e = .returned (.int .i64 (put2E m a G)) ∧ Only [b] w w' ∧ Blk w' b (byr (put2L L o m a G) R_) T := by
  refine calls_of_WP (args := [.slice (some ⟨b, o, none⟩) m c, .int .i64 a, .agg (wds G).toArray]) 42 Tryd.func39 rfl rfl rfl ?_
  have H := Sep.start1 hb
  refine WP_seq_k fun K1 hK1 => ?_
  refine WP_region ?_
  refine RL_ex rfl rfl (Ex_box rfl) ?_
  rintro _ w304 ⟨b63, rfl, hA⟩
  replace H := H.alloc hA
  refine RL_do rfl rfl (Do_assign rfl) ?_
  refine (RL_nil (thenQ_n (hK1 _ _ ?_)))
  refine WP_seq_k fun K2 hK2 => ?_
  refine WP_seq_k fun K3 hK3 => ?_
  refine WP_region ?_
  refine RL_do rfl rfl (Do_move (v := .slice _ _ _) rfl) ?_
  refine RL_do rfl rfl (Do_move (v := .int _ _) rfl) ?_
  refine RL_call rfl rfl (DoC_func en95 rfl) (checkPlace_c _ m c a 768 (by omega) (by omega) (by omega) w304) ?_
  rintro _ w305 ⟨rfl, hB⟩
  replace H := H.below hB
  refine ⟨_, rfl, ?_⟩
  refine RL_do rfl rfl (Do_assign (v := .int _ _) rfl) ?_
  refine (RL_nil (thenQ_n (hK3 _ _ ?_)))
  refine WP_seq_k fun K4 hK4 => ?_
  refine WP_region ?_
  refine RL_do rfl rfl (Do_move (v := .int _ _) rfl) ?_
  refine RL_do rfl rfl (Do_neq rfl rfl) ?_
  refine (RL_nil (thenQ_n (hK4 _ _ ?_)))
  first | refine WP_if rfl (fun c1 => ?_) (fun c1 => ?_) | refine WP_ifb rfl (fun c1 => ?_) (fun c1 => ?_)
  · skip
    refine WP_seq_k fun K5 hK5 => ?_
    refine WP_region ?_
    refine RL_do rfl rfl (Do_move (v := .int _ _) rfl) ?_
    refine RL_do rfl rfl (Do_assign (v := .int _ _) rfl) ?_
    refine (RL_nil (thenQ_n (hK5 _ _ ?_)))
    refine (WP_ret (thenQ_r (post1 (v1 := .int _ _) rfl rfl ?_)))
    have q := p2_1 (G := G) c1
    exact ⟨reti q.1.symm, H.only, by rw [(q.2 L o).1]; exact H.blk (i := 0) rfl⟩
  · skip
    refine (WP_skip (thenQ_n (hK2 _ _ ?_)))
    refine WP_seq_k fun K6 hK6 => ?_
    refine WP_seq_k fun K7 hK7 => ?_
    refine WP_region ?_
    refine RL_do rfl rfl (Do_move rfl) ?_
    refine (RL_nil (thenQ_n (hK7 _ _ ?_)))
    refine WP_block ?_
    refine WP_loopS [6, 8, 18, 19, 20, 21, 22, 23, 24] (fun (g : Nat) => [(18, .int .i64 (g : Nat))]) (fun (g : Nat) wl => Sep [b] w wl [.blk b (byr L R_) T, .blk b63 (wds G) 56] ∧ g ≤ 8 ∧ noW G g) (fun (g : Nat) => 8 - g) (0) (Sl_cons rfl Sl_nil) ⟨H, ⟨by decide, fun j h => by omega⟩⟩ ?_
    clear H
    rintro k ρ w306 ⟨H, ⟨hk, hi⟩⟩
    refine WP_seq_k fun K8 hK8 => ?_
    refine WP_region ?_
    refine RL_do rfl rfl (Do_lss rfl rfl) ?_
    refine (RL_nil (thenQ_n (hK8 _ _ ?_)))
    refine WP_seq_k fun K9 hK9 => ?_
    first | refine WP_if rfl (fun c2 => ?_) (fun c2 => ?_) | refine WP_ifb rfl (fun c2 => ?_) (fun c2 => ?_)
    · skip
      refine (WP_skip (thenQ_n (hK9 _ _ ?_)))
      refine WP_seq_k fun K10 hK10 => ?_
      refine WP_block ?_
      refine WP_seq_k fun K11 hK11 => ?_
      refine WP_region ?_
      refine RL_do rfl rfl (Do_move (v := .int _ _) rfl) ?_
      refine RL_do rfl rfl (Do_assign (v := .int _ _) rfl) ?_
      refine (RL_nil (thenQ_n (hK11 _ _ ?_)))
      refine WP_seq_k fun K12 hK12 => ?_
      refine WP_region ?_
      refine RL_do rfl rfl (Do_move (v := .int _ _) rfl) ?_
      refine RL_do rfl rfl (Do_idxa u56 sz25 rfl rfl (by omega) (by omega) (Int.toNat_natCast _) (by first | exact Nat.zero_add _ | rfl)) ?_
      refine RL_call rfl rfl (DoC_func en78 rfl) (wide_c (fr G k) (fr_len hG (by omega)) (fr_small hs k) _ (k * 64) w306 (by rw [Nat.mul_comm k 64]; exact fr_cells (Blk.cells (Sep.blk (i := 1) H rfl)) k)) ?_
      rintro _ w307 ⟨rfl, hB⟩
      replace H := H.below hB
      refine ⟨_, rfl, ?_⟩
      refine (RL_nil (thenQ_n (hK12 _ _ ?_)))
      first | refine WP_if rfl (fun c3 => ?_) (fun c3 => ?_) | refine WP_ifb rfl (fun c3 => ?_) (fun c3 => ?_)
      · skip
        refine WP_seq_k fun K13 hK13 => ?_
        refine WP_region ?_
        refine RL_do rfl rfl (Do_assign rfl) ?_
        refine (RL_nil (thenQ_n (hK13 _ _ ?_)))
        refine (WP_ret (blockQ_r (thenQ_r (thenQ_r (blockQ_r (thenQ_r (post1 (v1 := .int _ _) rfl rfl ?_)))))))
        have q := p2_2 (G := G) (show ¬ placeN m a 768 ≠ 0 by assumption) (fun h => h k (by omega) (by assumption))
        exact ⟨reti q.1.symm, H.only, by rw [(q.2 L o).1]; exact H.blk (i := 0) rfl⟩
      · skip
        refine (WP_skip (blockQ_n (thenQ_n (hK10 _ _ ?_))))
        refine WP_region ?_
        refine RL_do rfl rfl (Do_add rfl rfl (wrap_i64 (by omega) (by omega))) ?_
        refine RL_do rfl rfl (Do_move (v := .int _ _) rfl) ?_
        refine (RL_nil (thenQ_n (And.intro ?_ ?_)))
        · repeat' (first | with_reducible exact Fr_refl | refine Fr_upd rfl ?_ | refine Fr_over rfl rfl ?_)
        · refine ⟨k + 1, (Sl_cons (by first | rfl | exact congrArg (Value.int _) (by omega)) Sl_nil), ?_, ?_⟩
          · exact ⟨H, by omega, upto_succ (P := fun j => ¬ wideN (fr G j)) hi (by assumption)⟩
          · simp; omega
    · skip
      refine (WP_exit (thenQ_x (thenQ_x (blockQ_eq (thenQ_n (hK6 _ _ ?_))))))
      refine WP_seq_k fun K14 hK14 => ?_
      refine WP_seq_k fun K15 hK15 => ?_
      refine WP_region ?_
      refine RL_do rfl rfl (Do_move rfl) ?_
      refine (RL_nil (thenQ_n (hK15 _ _ ?_)))
      refine WP_block ?_
      obtain rfl : k = 8 := by omega
      have q0 := placeN_0 (show placeN m a 768 = 0 by omega)
      refine WP_loopS [9, 10, 11, 25, 26, 27, 28, 29, 30, 31, 32, 33, 34, 35, 36, 37, 38, 39, 40, 41] (fun (g : Nat) => [(25, .int .i64 (g : Nat))]) (fun (g : Nat) wl => Sep [b] w wl [.blk b (byr (save8 L (o + a.toNat) G g) R_) T, .blk b63 (wds G) 56] ∧ g ≤ 8) (fun (g : Nat) => 8 - g) (0) (Sl_cons rfl Sl_nil) ⟨H, by decide⟩ ?_
      clear H
      rintro i ρ w308 ⟨H, hi2⟩
      refine WP_seq_k fun K16 hK16 => ?_
      refine WP_region ?_
      refine RL_do rfl rfl (Do_lss rfl rfl) ?_
      refine (RL_nil (thenQ_n (hK16 _ _ ?_)))
      refine WP_seq_k fun K17 hK17 => ?_
      first | refine WP_if rfl (fun c4 => ?_) (fun c4 => ?_) | refine WP_ifb rfl (fun c4 => ?_) (fun c4 => ?_)
      · skip
        refine (WP_skip (thenQ_n (hK17 _ _ ?_)))
        refine WP_seq_k fun K18 hK18 => ?_
        refine WP_block ?_
        refine WP_seq_k fun K19 hK19 => ?_
        refine WP_region ?_
        refine RL_do rfl rfl (Do_move (v := .int _ _) rfl) ?_
        refine RL_do rfl rfl (Do_assign (v := .int _ _) rfl) ?_
        refine (RL_nil (thenQ_n (hK19 _ _ ?_)))
        refine WP_seq_k fun K20 hK20 => ?_
        refine WP_region ?_
        refine RL_do rfl rfl (Do_move (v := .slice _ _ _) rfl) ?_
        refine RL_do rfl rfl (Do_move (v := .int _ _) rfl) ?_
        refine RL_do rfl rfl (Do_move (v := .int _ _) rfl) ?_
        refine RL_do rfl rfl (Do_mul rfl rfl (wrap_i64 (by omega) (by omega))) ?_
        refine RL_do rfl rfl (Do_add rfl rfl (wrap_i64 (by omega) (by omega))) ?_
        refine RL_call rfl rfl (DoC_func en77 rfl) (inPlace_c _ m c (a + (i : Int) * 96) hm hc (fun _ => ⟨_, _, rfl⟩) w308) ?_
        rintro _ w309 ⟨pv, rfl, hpv, hB⟩
        replace H := H.below hB
        refine ⟨_, rfl, ?_⟩
        refine RL_do rfl rfl (Do_move (v := .tuple _) rfl) ?_
        refine RL_do rfl rfl (Do_extract (v := .pointer _) rfl rfl) ?_
        refine RL_do rfl rfl (Do_extract (v := .int _ _) rfl rfl) ?_
        refine RL_do rfl rfl (Do_assign (v := .pointer _) rfl) ?_
        refine RL_do rfl rfl (Do_assign (v := .int _ _) rfl) ?_
        refine (RL_nil (thenQ_n (hK20 _ _ ?_)))
        refine WP_region ?_
        have e1 : placeN m (a + (i : Int) * 96) 96 = 0 := placeN_3 (by omega) (by omega)
        obtain rfl := hpv e1
        simp only [Option.map_some, Addr.add_none]
        refine RL_do rfl rfl (Do_move (v := .pointer _) rfl) ?_
        refine RL_do rfl rfl (Do_move (v := .int _ _) rfl) ?_
        refine RL_do rfl rfl (Do_idxa u56 sz25 rfl rfl (by omega) (by omega) (Int.toNat_natCast _) (by first | exact Nat.zero_add _ | rfl)) ?_
        refine RL_call rfl rfl (DoC_func en79 rfl) (save_c (save8 L (o + a.toNat) G i) R_ (save8_byte hL hG hi i (by omega)) b (o + (a + (i : Int) * 96).toNat) T (by rw [save8_len]; omega) (fr G i) (fr_len hG (by omega)) (nw hG hi (by omega)) _ (i * 64) (Sep.ne (i := 1) (j := 0) H rfl rfl rfl) w309 (Sep.blk (i := 0) H rfl) (by rw [Nat.mul_comm i 64]; exact fr_cells (Blk.cells (Sep.blk (i := 1) H rfl)) i)) ?_
        rintro _ w310 ⟨rfl, hO, hB⟩
        replace H := H.write (i := 0) rfl hB hO
        refine ⟨_, rfl, ?_⟩
        refine (RL_nil (blockQ_n (thenQ_n (hK18 _ _ ?_))))
        refine WP_region ?_
        refine RL_do rfl rfl (Do_add rfl rfl (wrap_i64 (by omega) (by omega))) ?_
        refine RL_do rfl rfl (Do_move (v := .int _ _) rfl) ?_
        replace H := H.conv (i := 0) rfl (congrArg (fun x => byr (saveN (save8 L (o + a.toNat) G i) x (fr G i)) R_) (show _ = o + a.toNat + 96 * i by omega))
        refine (RL_nil (thenQ_n (And.intro ?_ ?_)))
        · repeat' (first | with_reducible exact Fr_refl | refine Fr_upd rfl ?_ | refine Fr_over rfl rfl ?_)
        · refine ⟨i + 1, (Sl_cons (by first | rfl | exact congrArg (Value.int _) (by omega)) Sl_nil), ?_, ?_⟩
          · exact ⟨H, by omega⟩
          · simp; omega
      · skip
        refine (WP_exit (thenQ_x (thenQ_x (blockQ_eq (thenQ_n (hK14 _ _ ?_))))))
        refine WP_seq_k fun K21 hK21 => ?_
        refine WP_region ?_
        refine RL_do rfl rfl (Do_assign rfl) ?_
        refine (RL_nil (thenQ_n (hK21 _ _ ?_)))
        refine (WP_ret (post1 (v1 := .int _ _) rfl rfl ?_))
        have q := p2_3 (G := G) (show ¬ placeN m a 768 ≠ 0 by assumption) hi
        obtain rfl : i = 8 := by omega
        exact ⟨reti q.1.symm, H.only, by rw [(q.2 L o).1]; exact H.blk (i := 0) rfl⟩
end Go.Proofs.YtafgmocdnjdmoaaDoor
