/- What the walks and the laws stand on; no condition but those that stand in the statements. -/
import Derived.Test.YtafgmocdnjdmoaaDoorRows
import Derived.Test.YtafgmocdnjdmoaaDoorC12
namespace Go.Proofs.YtafgmocdnjdmoaaDoor
open Go.RowKit Go.OB Go.Fr1
theorem en16 : Enters Tryd.prog 16 := ⟨_, Tryd.func16, rfl, by kernel_rfl⟩
theorem en17 : Enters Tryd.prog 17 := ⟨_, Tryd.func17, rfl, by kernel_rfl⟩
theorem en20 : Enters Tryd.prog 20 := ⟨_, Tryd.func20, rfl, by kernel_rfl⟩
/-- orangebox/orangeboxlaw1.FramePutMatchesSpec -/
theorem FramePut_c (v : Value) (xs : List Nat) (m : Nat) (hm : xs.length = m) (hx : Byte xs) (hM : m ≤ 140737488351232) (a : Int) (f : List Nat) (hl : f.length = 64) (hs : Small f) (w : World) (hg : Cells w ⟨0, 0, none⟩ (wds tab)) (hw0 : 0 < w.heap.size) (hr : SlR w v 1 m (bys xs)) :
    Calls Tryd.prog 3 #[v, .int .i64 a, .agg (wds f).toArray] w fun e w' => e = .returned (.bool true) ∧ Below w.heap.size w w' := by
  refine calls_of_WP (args := [v, .int .i64 a, .agg (wds f).toArray]) 43 Tryd.func3 rfl rfl rfl ?_
  obtain ⟨va, vc, rfl⟩ := hr.shape
  have px := putX_len (a := a) (f := f) hm
  have pb := putX_byte (a := a) (f := f) hm hx
  have H := Sep.start [] w
  refine WP_seq_k fun K1 hK1 => ?_
  refine WP_region ?_
  refine RL_ex rfl rfl (Ex_box rfl) ?_
  rintro _ w146 ⟨b34, rfl, hA⟩
  replace H := H.alloc hA
  refine RL_do rfl rfl (Do_assign rfl) ?_
  refine (RL_nil (thenQ_n (hK1 _ _ ?_)))
  refine WP_seq_k fun K2 hK2 => ?_
  refine WP_region ?_
  refine RL_do rfl rfl (Do_move (v := .slice _ _ _) rfl) ?_
  refine RL_call rfl rfl (DoC_func en16 rfl) (inside_c _ xs m hm hx hM w146 (hr.only (Sep.only H) (by simp))) ?_
  rintro _ w147 ⟨g, cap, R_, rfl, hgb, hc1, hc2, hge, hB⟩
  replace H := H.gotb hB hgb hge
  refine ⟨_, rfl, ?_⟩
  refine RL_do rfl rfl (Do_move (v := .tuple _) rfl) ?_
  refine RL_do rfl rfl (Do_extract (v := .slice _ _ _) rfl rfl) ?_
  refine RL_do rfl rfl (Do_extract (v := .slice _ _ _) rfl rfl) ?_
  refine RL_do rfl rfl (Do_assign (v := .slice _ _ _) rfl) ?_
  refine RL_do rfl rfl (Do_assign (v := .slice _ _ _) rfl) ?_
  refine (RL_nil (thenQ_n (hK2 _ _ ?_)))
  refine WP_seq_k fun K3 hK3 => ?_
  refine WP_region ?_
  refine RL_do rfl rfl (Do_move (v := .slice _ _ _) rfl) ?_
  refine RL_do rfl rfl (Do_move (v := .int _ _) rfl) ?_
  refine RL_do rfl rfl (Do_loads agg25 rfl sz25 (by simp [wds_length, bys_length, hl]) (Blk.cells (Sep.blk (i := 0) H rfl))) ?_
  refine RL_call rfl rfl (DoC_func en17 rfl) (PutRef_c _ xs m hm hx hM a f hl hs w147 (hr.only (Sep.only H) (by simp))) ?_
  rintro _ w148 ⟨vq, rfl, hq, hqb, hB⟩
  have hqn : 0 < m → ∀ b, sblk vq = some b → b ∉ [g] := fun hp b hb hm => by
    have e : b = g := by simpa using hm
    have h1 := ((Sep.blk (i := 1) H rfl)).lt
    rcases hqb b hb with h | h
    · have h2 := hr.lt hp b h
      have h3 := Sep.ge0 (i := 1) H rfl
      omega
    · omega
  replace H := H.below hB
  refine ⟨_, rfl, ?_⟩
  refine RL_do rfl rfl (Do_move (v := .tuple _) rfl) ?_
  refine RL_do rfl rfl (Do_extract (v := vq) rfl rfl) ?_
  refine RL_do rfl rfl (Do_extract (v := .int _ _) rfl rfl) ?_
  refine RL_do rfl rfl (Do_assign (v := vq) rfl) ?_
  refine RL_do rfl rfl (Do_assign (v := .int _ _) rfl) ?_
  refine (RL_nil (thenQ_n (hK3 _ _ ?_)))
  refine WP_seq_k fun K4 hK4 => ?_
  refine WP_region ?_
  refine RL_do rfl rfl (Do_move (v := .slice _ _ _) rfl) ?_
  refine RL_do rfl rfl (Do_move (v := .int _ _) rfl) ?_
  refine RL_do rfl rfl (Do_loads agg25 rfl sz25 (by simp [wds_length, bys_length, hl]) (Blk.cells (Sep.blk (i := 0) H rfl))) ?_
  refine RL_call rfl rfl (DoC_func en18 rfl) (Put_c (ins xs) R_ (ins_byte hx) g 5 m (cap - 5) 5 (by rw [ins_len]; omega) (by omega) (by rw [maxLen_eq] at hc2; omega) a f hl hs w148 (Sep.blk (i := 1) H rfl)) ?_
  rintro _ w149 ⟨rfl, hO, hB⟩
  have hq := hq.only (hO) (hqn)
  replace H := H.write (i := 1) rfl hB hO
  refine ⟨_, rfl, ?_⟩
  replace H := H.conv (i := 1) rfl (congrArg (fun l => byr l R_) (putL_ins hm hx hl))
  refine RL_do rfl rfl (Do_assign (v := .int _ _) rfl) ?_
  refine (RL_nil (thenQ_n (hK4 _ _ ?_)))
  refine WP_seq_k fun K5 hK5 => ?_
  refine WP_region ?_
  refine RL_do rfl rfl (Do_move (v := .int _ _) rfl) ?_
  refine RL_do rfl rfl (Do_move (v := .int _ _) rfl) ?_
  refine RL_do rfl rfl (Do_eql rfl rfl) ?_
  first | refine RL_split rfl rfl rfl (fun c1 => ?_) (fun c1 => ?_) | refine RL_splitb rfl rfl rfl (fun c1 => ?_) (fun c1 => ?_)
  · skip
    refine RL_do rfl rfl (Do_move (v := .slice _ _ _) rfl) ?_
    refine RL_do rfl rfl (Do_move (v := vq) rfl) ?_
    refine RL_call rfl rfl (DoC_func en19 rfl) (beq_c _ m (putX xs m a f) pb _ m (putX xs m a f) pb w149 (Blk.slo (Sep.blk (i := 1) H rfl) (o := 5) (n := m) (s := 1) (xs := bys (putX xs m a f)) (by rw [Nat.mul_one, byr_part (by rw [ins_len, px]; omega)]; exact congrArg bys (by have := ins_part (putX xs m a f); rwa [px] at this)) (by rw [bys_length, px, Nat.mul_one]) (by omega) (by omega)) hq) ?_
    rintro _ w150 ⟨rfl, hB⟩
    have hq := hq.only (Only.of_below hB) (by simp)
    replace H := H.below hB
    refine ⟨_, rfl, ?_⟩
    refine RL_do rfl rfl (Do_pick_t (v := .bool _) rfl rfl) ?_
    first | refine RL_split rfl rfl rfl (fun c2 => ?_) (fun c2 => ?_) | refine RL_splitb rfl rfl rfl (fun c2 => ?_) (fun c2 => ?_)
    · skip
      refine RL_do rfl rfl (Do_move (v := .slice _ _ _) rfl) ?_
      refine RL_call rfl rfl (DoC_func en20 rfl) (kept_c (putX xs m a f) m px pb g cap R_ hc1 hc2 w150 (Sep.blk (i := 1) H rfl)) ?_
      rintro _ w151 ⟨rfl, hB⟩
      have hq := hq.only (Only.of_below hB) (by simp)
      replace H := H.below hB
      refine ⟨_, rfl, ?_⟩
      refine RL_do rfl rfl (Do_pick_t (v := .bool _) rfl rfl) ?_
      refine RL_do rfl rfl (Do_move (v := .bool _) rfl) ?_
      refine RL_call rfl rfl (DoC_func en21 rfl) (framed_c w151 (hg.only (Sep.only H) (by simp)) (by have := (Sep.only H).size; omega)) ?_
      rintro _ w152 ⟨rfl, hB⟩
      have hq := hq.only (Only.of_below hB) (by simp)
      replace H := H.below hB
      refine ⟨_, rfl, ?_⟩
      refine RL_do rfl rfl (Do_pick_t (v := .bool _) rfl rfl) ?_
      refine RL_do rfl rfl (Do_assign (v := .bool _) rfl) ?_
      refine (RL_nil (thenQ_n (hK5 _ _ ?_)))
      refine (WP_ret (post1 (v1 := .bool _) rfl rfl ?_))
      exact ⟨rfl, H.kept⟩
    · exact absurd (by exact c2 rfl : False) id
  · exact absurd (by omega : False) id
end Go.Proofs.YtafgmocdnjdmoaaDoor
