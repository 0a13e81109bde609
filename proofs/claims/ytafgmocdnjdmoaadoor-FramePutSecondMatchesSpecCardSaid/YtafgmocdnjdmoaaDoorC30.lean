/- What the walks and the laws stand on; no condition but those that stand in the statements. -/
import Derived.Test.YtafgmocdnjdmoaaDoorRows
import Derived.Test.YtafgmocdnjdmoaaDoorC29
import Derived.Test.YtafgmocdnjdmoaaDoorC13
namespace Go.Proofs.YtafgmocdnjdmoaaDoor
open Go.RowKit Go.OB Go.Fr1
theorem en38 : Enters Tryd.prog 38 := ⟨_, Tryd.func38, rfl, by kernel_rfl⟩
theorem en39 : Enters Tryd.prog 39 := ⟨_, Tryd.func39, rfl, by kernel_rfl⟩
/-- orangebox/orangeboxlaw1.FramePutSecondMatchesSpec -/
theorem FrameSecond_c (v : Value) (xs : List Nat) (m : Nat) (hm : xs.length = m) (hx : Byte xs) (hM : m ≤ 140737488351232) (a : Int) (G : List Nat) (hG : G.length = 512) (hs : Small G) (w : World) (hg : Cells w ⟨0, 0, none⟩ (wds tab)) (hw0 : 0 < w.heap.size) (hr : SlR w v 1 m (bys xs)) :
    Calls Tryd.prog 9 #[v, .int .i64 a, .agg (wds G).toArray] w fun e w' => e = .returned (.bool true) ∧ Below w.heap.size w w' := by
  refine calls_of_WP (args := [v, .int .i64 a, .agg (wds G).toArray]) 43 Tryd.func9 rfl rfl rfl ?_
  obtain ⟨va, vc, rfl⟩ := hr.shape
  have px := put2X_len (a := a) (G := G) hm
  have pb := put2X_byte (a := a) (G := G) hm hx
  have H := Sep.start [] w
  refine WP_seq_k fun K1 hK1 => ?_
  refine WP_region ?_
  refine RL_ex rfl rfl (Ex_box rfl) ?_
  rintro _ w320 ⟨b66, rfl, hA⟩
  replace H := H.alloc hA
  refine RL_do rfl rfl (Do_assign rfl) ?_
  refine (RL_nil (thenQ_n (hK1 _ _ ?_)))
  refine WP_seq_k fun K2 hK2 => ?_
  refine WP_region ?_
  refine RL_do rfl rfl (Do_move (v := .slice _ _ _) rfl) ?_
  refine RL_call rfl rfl (DoC_func en16 rfl) (inside_c _ xs m hm hx hM w320 (hr.only (Sep.only H) (by simp))) ?_
  rintro _ w321 ⟨g, cap, R_, rfl, hgb, hc1, hc2, hge, hB⟩
  replace H := H.gotb hB hgb hge
  refine ⟨_, rfl, ?_⟩
  refine RL_do rfl rfl (Do_move (v := .tuple _) rfl) ?_
  refine RL_do rfl rfl (Do_extract (v := .slice _ _ _) rfl rfl) ?_
  refine RL_do rfl rfl (Do_extract (v := .slice _ _ _) rfl rfl) ?_
  refine RL_do rfl rfl (Do_assign (v := .slice _ _ _) rfl) ?_
  refine RL_do rfl rfl (Do_assign (v := .slice _ _ _) rfl) ?_
  refine (RL_nil (thenQ_n (hK2 _ _ ?_)))
  refine WP_seq_k fun K3 hK3 => ?_
  refine WP_region ?_
  refine RL_do rfl rfl (Do_move (v := .slice _ _ _) rfl) ?_
  refine RL_do rfl rfl (Do_move (v := .int _ _) rfl) ?_
  refine RL_do rfl rfl (Do_loads agg56 rfl sz56 (by simp [wds_length, bys_length, hG]) (Blk.cells (Sep.blk (i := 0) H rfl))) ?_
  refine RL_call rfl rfl (DoC_func en38 rfl) (Put2Ref_c _ xs m hm hx hM a G hG hs w321 (hr.only (Sep.only H) (by simp))) ?_
  rintro _ w322 ⟨vq, rfl, hq, hqb, hB⟩
  have hqn : 0 < m → ∀ b, sblk vq = some b → b ∉ [g] := fun hp b hb hm => by
    have e : b = g := by simpa using hm
    have h1 := ((Sep.blk (i := 1) H rfl)).lt
    rcases hqb b hb with h | h
    · have h2 := hr.lt hp b h
      have h3 := Sep.ge0 (i := 1) H rfl
      omega
    · omega
  replace H := H.below hB
  refine ⟨_, rfl, ?_⟩
  refine RL_do rfl rfl (Do_move (v := .tuple _) rfl) ?_
  refine RL_do rfl rfl (Do_extract (v := vq) rfl rfl) ?_
  refine RL_do rfl rfl (Do_extract (v := .int _ _) rfl rfl) ?_
  refine RL_do rfl rfl (Do_assign (v := vq) rfl) ?_
  refine RL_do rfl rfl (Do_assign (v := .int _ _) rfl) ?_
  refine (RL_nil (thenQ_n (hK3 _ _ ?_)))
  refine WP_seq_k fun K4 hK4 => ?_
  refine WP_region ?_
  refine RL_do rfl rfl (Do_move (v := .slice _ _ _) rfl) ?_
  refine RL_do rfl rfl (Do_move (v := .int _ _) rfl) ?_
  refine RL_do rfl rfl (Do_loads agg56 rfl sz56 (by simp [wds_length, bys_length, hG]) (Blk.cells (Sep.blk (i := 0) H rfl))) ?_
  refine RL_call rfl rfl (DoC_func en39 rfl) (Put2_c (ins xs) R_ (ins_byte hx) g 5 m (cap - 5) 5 (by rw [ins_len]; omega) (by omega) (by rw [maxLen_eq] at hc2; omega) a G hG hs w322 (Sep.blk (i := 1) H rfl)) ?_
  rintro _ w323 ⟨rfl, hO, hB⟩
  have hq := hq.only (hO) (hqn)
  replace H := H.write (i := 1) rfl hB hO
  refine ⟨_, rfl, ?_⟩
  replace H := H.conv (i := 1) rfl (congrArg (fun l => byr l R_) (put2L_ins hm hx hG))
  refine RL_do rfl rfl (Do_assign (v := .int _ _) rfl) ?_
  refine (RL_nil (thenQ_n (hK4 _ _ ?_)))
  refine WP_seq_k fun K5 hK5 => ?_
  refine WP_region ?_
  refine RL_do rfl rfl (Do_move (v := .int _ _) rfl) ?_
  refine RL_do rfl rfl (Do_move (v := .int _ _) rfl) ?_
  refine RL_do rfl rfl (Do_eql rfl rfl) ?_
  first | refine RL_split rfl rfl rfl (fun c1 => ?_) (fun c1 => ?_) | refine RL_splitb rfl rfl rfl (fun c1 => ?_) (fun c1 => ?_)
  · skip
    refine RL_do rfl rfl (Do_move (v := .slice _ _ _) rfl) ?_
    refine RL_do rfl rfl (Do_move (v := vq) rfl) ?_
    refine RL_call rfl rfl (DoC_func en19 rfl) (beq_c _ m (put2X xs m a G) pb _ m (put2X xs m a G) pb w323 (Blk.slo (Sep.blk (i := 1) H rfl) (o := 5) (n := m) (s := 1) (xs := bys (put2X xs m a G)) (by rw [Nat.mul_one, byr_part (by rw [ins_len, px]; omega)]; exact congrArg bys (by have := ins_part (put2X xs m a G); rwa [px] at this)) (by rw [bys_length, px, Nat.mul_one]) (by omega) (by omega)) hq) ?_
    rintro _ w324 ⟨rfl, hB⟩
    have hq := hq.only (Only.of_below hB) (by simp)
    replace H := H.below hB
    refine ⟨_, rfl, ?_⟩
    refine RL_do rfl rfl (Do_pick_t (v := .bool _) rfl rfl) ?_
    first | refine RL_split rfl rfl rfl (fun c2 => ?_) (fun c2 => ?_) | refine RL_splitb rfl rfl rfl (fun c2 => ?_) (fun c2 => ?_)
    · skip
      refine RL_do rfl rfl (Do_move (v := .slice _ _ _) rfl) ?_
      refine RL_call rfl rfl (DoC_func en20 rfl) (kept_c (put2X xs m a G) m px pb g cap R_ hc1 hc2 w324 (Sep.blk (i := 1) H rfl)) ?_
      rintro _ w325 ⟨rfl, hB⟩
      have hq := hq.only (Only.of_below hB) (by simp)
      replace H := H.below hB
      refine ⟨_, rfl, ?_⟩
      refine RL_do rfl rfl (Do_pick_t (v := .bool _) rfl rfl) ?_
      refine RL_do rfl rfl (Do_move (v := .bool _) rfl) ?_
      refine RL_call rfl rfl (DoC_func en21 rfl) (framed_c w325 (hg.only (Sep.only H) (by simp)) (by have := (Sep.only H).size; omega)) ?_
      rintro _ w326 ⟨rfl, hB⟩
      have hq := hq.only (Only.of_below hB) (by simp)
      replace H := H.below hB
      refine ⟨_, rfl, ?_⟩
      refine RL_do rfl rfl (Do_pick_t (v := .bool _) rfl rfl) ?_
      refine RL_do rfl rfl (Do_assign (v := .bool _) rfl) ?_
      refine (RL_nil (thenQ_n (hK5 _ _ ?_)))
      refine (WP_ret (post1 (v1 := .bool _) rfl rfl ?_))
      exact ⟨rfl, H.kept⟩
    · exact absurd (by exact c2 rfl : False) id
  · exact absurd (by omega : False) id
end Go.Proofs.YtafgmocdnjdmoaaDoor
