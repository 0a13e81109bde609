/- Walks of functions: what each computes, for every argument; no condition but those that stand in the statements. -/
import Derived.Test.YtafgmocdnjdmoaaDoorRows
import Derived.Test.YtafgmocdnjdmoaaDoorC18
namespace Go.Proofs.YtafgmocdnjdmoaaDoor
open Go.RowKit Go.OB Go.Fr1
theorem en40 : Enters Tryd.prog 40 := ⟨_, Tryd.func40, rfl, by kernel_rfl⟩
theorem en41 : Enters Tryd.prog 41 := ⟨_, Tryd.func41, rfl, by kernel_rfl⟩
theorem en42 : Enters Tryd.prog 42 := ⟨_, Tryd.func42, rfl, by kernel_rfl⟩
theorem en43 : Enters Tryd.prog 43 := ⟨_, Tryd.func43, rfl, by kernel_rfl⟩
/-- orangebox/orangeboxlaw1.FrameSwapMatchesSpec -/
theorem FrameSwap_c (v : Value) (xs : List Nat) (m : Nat) (hm : xs.length = m) (hx : Byte xs) (hM : m ≤ 140737488351232) (a t : Int) (w : World) (hg : Cells w ⟨0, 0, none⟩ (wds tab)) (hw0 : 0 < w.heap.size) (hr : SlR w v 1 m (bys xs)) :
    Calls Tryd.prog 10 #[v, .int .i64 a, .int .i64 t] w fun e w' => e = .returned (.bool true) ∧ Below w.heap.size w w' := by
  refine calls_of_WP (args := [v, .int .i64 a, .int .i64 t]) 72 Tryd.func10 rfl rfl rfl ?_
  obtain ⟨va, vc, rfl⟩ := hr.shape
  have px := swapX_len (a := a) (t := t) hm
  have pb := swapX_byte (a := a) (t := t) hm hx
  have cx := clX_len (a := a) hm
  have cb := clX_byte (a := a) hm hx
  have H := Sep.start [] w
  refine WP_seq_k fun K1 hK1 => ?_
  refine WP_region ?_
  refine RL_do rfl rfl (Do_assign rfl) ?_
  refine (RL_nil (thenQ_n (hK1 _ _ ?_)))
  refine WP_seq_k fun K2 hK2 => ?_
  refine WP_region ?_
  refine RL_do rfl rfl (Do_move (v := .slice _ _ _) rfl) ?_
  refine RL_call rfl rfl (DoC_func en16 rfl) (inside_c _ xs m hm hx hM w (hr.only (Sep.only H) (by simp))) ?_
  rintro _ w201 ⟨g, cap, R_, rfl, hgb, hc1, hc2, hge, hB⟩
  replace H := H.gotb hB hgb hge
  refine ⟨_, rfl, ?_⟩
  refine RL_do rfl rfl (Do_move (v := .tuple _) rfl) ?_
  refine RL_do rfl rfl (Do_extract (v := .slice _ _ _) rfl rfl) ?_
  refine RL_do rfl rfl (Do_extract (v := .slice _ _ _) rfl rfl) ?_
  refine RL_do rfl rfl (Do_assign (v := .slice _ _ _) rfl) ?_
  refine RL_do rfl rfl (Do_assign (v := .slice _ _ _) rfl) ?_
  refine (RL_nil (thenQ_n (hK2 _ _ ?_)))
  refine WP_seq_k fun K3 hK3 => ?_
  refine WP_region ?_
  refine RL_do rfl rfl (Do_move (v := .slice _ _ _) rfl) ?_
  refine RL_do rfl rfl (Do_move (v := .int _ _) rfl) ?_
  refine RL_do rfl rfl (Do_move (v := .int _ _) rfl) ?_
  refine RL_call rfl rfl (DoC_func en40 rfl) (SwapRef_c _ xs m hm hx hM a t w201 (hr.only (Sep.only H) (by simp))) ?_
  rintro _ w202 ⟨vq, rfl, hq, hqb, hB⟩
  have hqn : 0 < m → ∀ b, sblk vq = some b → b ∉ [g] := fun hp b hb hm => by
    have e : b = g := by simpa using hm
    have h1 := ((Sep.blk (i := 0) H rfl)).lt
    rcases hqb b hb with h | h
    · have h2 := hr.lt hp b h
      have h3 := Sep.ge0 (i := 0) H rfl
      omega
    · omega
  replace H := H.below hB
  refine ⟨_, rfl, ?_⟩
  refine RL_do rfl rfl (Do_move (v := .tuple _) rfl) ?_
  refine RL_do rfl rfl (Do_extract (v := vq) rfl rfl) ?_
  refine RL_do rfl rfl (Do_extract (v := .int _ _) rfl rfl) ?_
  refine RL_do rfl rfl (Do_assign (v := vq) rfl) ?_
  refine RL_do rfl rfl (Do_assign (v := .int _ _) rfl) ?_
  refine (RL_nil (thenQ_n (hK3 _ _ ?_)))
  refine WP_seq_k fun K4 hK4 => ?_
  refine WP_seq_k fun K5 hK5 => ?_
  refine WP_region ?_
  refine RL_do rfl rfl (Do_move (v := .slice _ _ _) rfl) ?_
  refine RL_do rfl rfl (Do_move (v := .int _ _) rfl) ?_
  refine RL_do rfl rfl (Do_move (v := .int _ _) rfl) ?_
  refine RL_call rfl rfl (DoC_func en41 rfl) (Swap_c (ins xs) R_ (ins_byte hx) g 5 m (cap - 5) 5 (by rw [ins_len]; omega) (by omega) (by rw [maxLen_eq] at hc2; omega) a t w202 (Sep.blk (i := 0) H rfl)) ?_
  rintro _ w203 ⟨rfl, hO, hB⟩
  have hq := hq.only (hO) (hqn)
  replace H := H.write (i := 0) rfl hB hO
  refine ⟨_, rfl, ?_⟩
  replace H := H.conv (i := 0) rfl (congrArg (fun l => byr l R_) (swp_ins hm))
  refine RL_do rfl rfl (Do_assign (v := .int _ _) rfl) ?_
  refine (RL_nil (thenQ_n (hK5 _ _ ?_)))
  refine WP_seq_k fun K6 hK6 => ?_
  refine WP_region ?_
  refine RL_do rfl rfl (Do_move (v := .int _ _) rfl) ?_
  refine RL_do rfl rfl (Do_move (v := .int _ _) rfl) ?_
  refine RL_do rfl rfl (Do_neq rfl rfl) ?_
  first | refine RL_split rfl rfl rfl (fun c1 => ?_) (fun c1 => ?_) | refine RL_splitb rfl rfl rfl (fun c1 => ?_) (fun c1 => ?_)
  · exact absurd (by omega : False) id
  · skip
    refine RL_do rfl rfl (Do_move (v := .slice _ _ _) rfl) ?_
    refine RL_do rfl rfl (Do_move (v := vq) rfl) ?_
    refine RL_call rfl rfl (DoC_func en19 rfl) (beq_c _ m (swapX xs m a t) pb _ m (swapX xs m a t) pb w203 (Blk.slo (Sep.blk (i := 0) H rfl) (o := 5) (n := m) (s := 1) (xs := bys (swapX xs m a t)) (by rw [Nat.mul_one, byr_part (by rw [ins_len, px]; omega)]; exact congrArg bys (by have := ins_part (swapX xs m a t); rwa [px] at this)) (by rw [bys_length, px, Nat.mul_one]) (by omega) (by omega)) hq) ?_
    rintro _ w204 ⟨rfl, hB⟩
    have hq := hq.only (Only.of_below hB) (by simp)
    replace H := H.below hB
    refine ⟨_, rfl, ?_⟩
    refine RL_do rfl rfl (Do_not' rfl) ?_
    refine RL_do rfl rfl (Do_pick_f (v := .bool _) rfl rfl) ?_
    first | refine RL_split rfl rfl rfl (fun c2 => ?_) (fun c2 => ?_) | refine RL_splitb rfl rfl rfl (fun c2 => ?_) (fun c2 => ?_)
    · exact absurd (by exact c2 rfl : False) id
    · skip
      refine RL_do rfl rfl (Do_move (v := .slice _ _ _) rfl) ?_
      refine RL_call rfl rfl (DoC_func en20 rfl) (kept_c (swapX xs m a t) m px pb g cap R_ hc1 hc2 w204 (Sep.blk (i := 0) H rfl)) ?_
      rintro _ w205 ⟨rfl, hB⟩
      have hq := hq.only (Only.of_below hB) (by simp)
      replace H := H.below hB
      refine ⟨_, rfl, ?_⟩
      refine RL_do rfl rfl (Do_not (p := true) rfl) ?_
      refine RL_do rfl rfl (Do_pick_f (v := .bool _) rfl rfl) ?_
      refine (RL_nil (thenQ_n (hK6 _ _ ?_)))
      refine WP_iff rfl ?_
      refine (WP_skip (thenQ_n (hK4 _ _ ?_)))
      refine WP_seq_k fun K7 hK7 => ?_
      refine WP_region ?_
      refine RL_do rfl rfl (Do_move (v := .slice _ _ _) rfl) ?_
      refine RL_call rfl rfl (DoC_func en16 rfl) (inside_c _ xs m hm hx hM w205 (hr.only (Sep.only H) (by simp))) ?_
      rintro _ w206 ⟨g2, cap2, R2, rfl, hgb2, hc3, hc4, hge2, hB⟩
      have hq := hq.only (Only.of_below hB) (by simp)
      replace H := H.gotb hB hgb2 hge2
      refine ⟨_, rfl, ?_⟩
      refine RL_do rfl rfl (Do_move (v := .tuple _) rfl) ?_
      refine RL_do rfl rfl (Do_extract (v := .slice _ _ _) rfl rfl) ?_
      refine RL_do rfl rfl (Do_extract (v := .slice _ _ _) rfl rfl) ?_
      refine RL_do rfl rfl (Do_assign (v := .slice _ _ _) rfl) ?_
      refine RL_do rfl rfl (Do_assign (v := .slice _ _ _) rfl) ?_
      refine (RL_nil (thenQ_n (hK7 _ _ ?_)))
      refine WP_seq_k fun K8 hK8 => ?_
      refine WP_region ?_
      refine RL_do rfl rfl (Do_move (v := .slice _ _ _) rfl) ?_
      refine RL_do rfl rfl (Do_move (v := .int _ _) rfl) ?_
      refine RL_call rfl rfl (DoC_func en42 rfl) (ClearRef_c _ xs m hm hx hM a w206 (hr.only (Sep.only H) (by simp))) ?_
      rintro _ w207 ⟨vq2, rfl, hq2, hqb2, hB⟩
      have hqn2 : 0 < m → ∀ b, sblk vq2 = some b → b ∉ [g2] := fun hp b hb hm => by
        have e : b = g2 := by simpa using hm
        have h1 := ((Sep.blk (i := 1) H rfl)).lt
        rcases hqb2 b hb with h | h
        · have h2 := hr.lt hp b h
          have h3 := Sep.ge0 (i := 1) H rfl
          omega
        · omega
      replace H := H.below hB
      refine ⟨_, rfl, ?_⟩
      refine RL_do rfl rfl (Do_move (v := .tuple _) rfl) ?_
      refine RL_do rfl rfl (Do_extract (v := vq2) rfl rfl) ?_
      refine RL_do rfl rfl (Do_extract (v := .int _ _) rfl rfl) ?_
      refine RL_do rfl rfl (Do_assign (v := vq2) rfl) ?_
      refine RL_do rfl rfl (Do_assign (v := .int _ _) rfl) ?_
      refine (RL_nil (thenQ_n (hK8 _ _ ?_)))
      refine WP_seq_k fun K9 hK9 => ?_
      refine WP_region ?_
      refine RL_do rfl rfl (Do_move (v := .slice _ _ _) rfl) ?_
      refine RL_do rfl rfl (Do_move (v := .int _ _) rfl) ?_
      refine RL_call rfl rfl (DoC_func en43 rfl) (Clear_c (ins xs) R2 (ins_byte hx) g2 5 m (cap2 - 5) 5 (by rw [ins_len]; omega) (by omega) (by rw [maxLen_eq] at hc4; omega) a w207 (Sep.blk (i := 1) H rfl)) ?_
      rintro _ w208 ⟨rfl, hO, hB⟩
      have hq2 := hq2.only (hO) (hqn2)
      replace H := H.write (i := 1) rfl hB hO
      refine ⟨_, rfl, ?_⟩
      replace H := H.conv (i := 1) rfl (congrArg (fun l => byr l R2) (cl_ins hm))
      refine RL_do rfl rfl (Do_assign (v := .int _ _) rfl) ?_
      refine (RL_nil (thenQ_n (hK9 _ _ ?_)))
      refine WP_seq_k fun K10 hK10 => ?_
      refine WP_region ?_
      refine RL_do rfl rfl (Do_move (v := .int _ _) rfl) ?_
      refine RL_do rfl rfl (Do_move (v := .int _ _) rfl) ?_
      refine RL_do rfl rfl (Do_eql rfl rfl) ?_
      first | refine RL_split rfl rfl rfl (fun c3 => ?_) (fun c3 => ?_) | refine RL_splitb rfl rfl rfl (fun c3 => ?_) (fun c3 => ?_)
      · skip
        refine RL_do rfl rfl (Do_move (v := .slice _ _ _) rfl) ?_
        refine RL_do rfl rfl (Do_move (v := vq2) rfl) ?_
        refine RL_call rfl rfl (DoC_func en19 rfl) (beq_c _ m (clX xs m a) cb _ m (clX xs m a) cb w208 (Blk.slo (Sep.blk (i := 1) H rfl) (o := 5) (n := m) (s := 1) (xs := bys (clX xs m a)) (by rw [Nat.mul_one, byr_part (by rw [ins_len, cx]; omega)]; exact congrArg bys (by have := ins_part (clX xs m a); rwa [cx] at this)) (by rw [bys_length, cx, Nat.mul_one]) (by omega) (by omega)) hq2) ?_
        rintro _ w209 ⟨rfl, hB⟩
        have hq2 := hq2.only (Only.of_below hB) (by simp)
        replace H := H.below hB
        refine ⟨_, rfl, ?_⟩
        refine RL_do rfl rfl (Do_pick_t (v := .bool _) rfl rfl) ?_
        first | refine RL_split rfl rfl rfl (fun c4 => ?_) (fun c4 => ?_) | refine RL_splitb rfl rfl rfl (fun c4 => ?_) (fun c4 => ?_)
        · skip
          refine RL_do rfl rfl (Do_move (v := .slice _ _ _) rfl) ?_
          refine RL_call rfl rfl (DoC_func en20 rfl) (kept_c (clX xs m a) m cx cb g2 cap2 R2 hc3 hc4 w209 (Sep.blk (i := 1) H rfl)) ?_
          rintro _ w210 ⟨rfl, hB⟩
          have hq2 := hq2.only (Only.of_below hB) (by simp)
          replace H := H.below hB
          refine ⟨_, rfl, ?_⟩
          refine RL_do rfl rfl (Do_pick_t (v := .bool _) rfl rfl) ?_
          refine RL_do rfl rfl (Do_move (v := .bool _) rfl) ?_
          refine RL_call rfl rfl (DoC_func en21 rfl) (framed_c w210 (hg.only (Sep.only H) (by simp)) (by have := (Sep.only H).size; omega)) ?_
          rintro _ w211 ⟨rfl, hB⟩
          have hq2 := hq2.only (Only.of_below hB) (by simp)
          replace H := H.below hB
          refine ⟨_, rfl, ?_⟩
          refine RL_do rfl rfl (Do_pick_t (v := .bool _) rfl rfl) ?_
          refine RL_do rfl rfl (Do_assign (v := .bool _) rfl) ?_
          refine (RL_nil (thenQ_n (hK10 _ _ ?_)))
          refine (WP_ret (post1 (v1 := .bool _) rfl rfl ?_))
          exact ⟨rfl, H.kept⟩
        · exact absurd (by exact c4 rfl : False) id
      · exact absurd (by omega : False) id
end Go.Proofs.YtafgmocdnjdmoaaDoor
