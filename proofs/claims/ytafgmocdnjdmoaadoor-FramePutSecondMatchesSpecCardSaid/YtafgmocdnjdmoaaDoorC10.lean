/- What the walks and the laws stand on; no condition but those that stand in the statements. -/
import Derived.Test.YtafgmocdnjdmoaaDoorRows
import Derived.Test.YtafgmocdnjdmoaaDoorC9
import Derived.Test.YtafgmocdnjdmoaaDoorByt
import Derived.Test.YtafgmocdnjdmoaaDoorOps5
namespace Go.Proofs.YtafgmocdnjdmoaaDoor
open Go.RowKit Go.OB Go.Fr1
theorem en19 : Enters Tryd.prog 19 := ⟨_, Tryd.func19, rfl, by kernel_rfl⟩
/-- bytes.Equal -/
theorem beq_c (v1 : Value) (m1 : Nat) (x1 : List Nat) (b1_ : Byte x1) (v2 : Value) (m2 : Nat) (x2 : List Nat) (b2_ : Byte x2) (w : World) (h1 : SlR w v1 1 m1 (bys x1)) (h2 : SlR w v2 1 m2 (bys x2)) :
    Calls Tryd.prog 19 #[v1, v2] w fun e w' => e = .returned (.bool (decide (x1 = x2))) ∧ Below w.heap.size w w' := by
  refine calls_of_WP (args := [v1, v2]) 10 Tryd.func19 rfl rfl rfl ?_
  have H := Sep.start [] w
  refine WP_seq_k fun K1 hK1 => ?_
  refine WP_region ?_
  refine RL_do rfl rfl (Do_assign rfl) ?_
  refine (RL_nil (thenQ_n (hK1 _ _ ?_)))
  refine WP_seq_k fun K2 hK2 => ?_
  refine WP_region ?_
  refine RL_do rfl rfl (Do_move (v := v1) rfl) ?_
  refine RL_do rfl rfl (Do_bstr u22 u5 u9 rfl (h1.only (Sep.only H) (by simp))) ?_
  refine RL_do rfl rfl (Do_move (v := v2) rfl) ?_
  refine RL_do rfl rfl (Do_bstr u22 u5 u9 rfl (h2.only (Sep.only H) (by simp))) ?_
  refine RL_do rfl rfl (Do_eqlstr rfl rfl) ?_
  refine RL_do rfl rfl (Do_assign (v := .bool _) rfl) ?_
  refine (RL_nil (thenQ_n (hK2 _ _ ?_)))
  refine (WP_ret (post1 (v1 := .bool _) rfl rfl ?_))
  exact ⟨retb (strN_inj (byte_mem b1_) (byte_mem b2_)), H.kept⟩

/-- orangebox/orangeboxlaw1.inside -/
theorem inside_c (v : Value) (xs : List Nat) (m : Nat) (hm : xs.length = m) (hx : Byte xs) (hB : m ≤ 140737488351232) (w : World) (hr : SlR w v 1 m (bys xs)) :
    Calls Tryd.prog 16 #[v] w fun e w' => ∃ g cap R_, e = .returned (.tuple #[.slice (some ⟨g, 0, none⟩) (m + 12) cap, .slice (some ⟨g, 5, none⟩) m (cap - 5)]) ∧ Blk w' g (byr (ins xs) R_) 5 ∧ m + 12 ≤ cap ∧ cap ≤ maxLen ∧ w.heap.size ≤ g ∧ Below w.heap.size w w' := by
  refine calls_of_WP (args := [v]) 15 Tryd.func16 rfl rfl rfl ?_
  obtain ⟨va, vc, rfl⟩ := hr.shape
  have H := Sep.start [] w
  refine WP_seq_k fun K1 hK1 => ?_
  refine WP_region ?_
  refine RL_do rfl rfl (Do_assign rfl) ?_
  refine RL_do rfl rfl (Do_assign rfl) ?_
  refine (RL_nil (thenQ_n (hK1 _ _ ?_)))
  refine WP_seq_k fun K2 hK2 => ?_
  refine WP_region ?_
  refine RL_ex rfl rfl (Ex_bs u22 el5 (by decide) (by decide) (fillB_nums (ns := [1, 2, 3, 4, 5]) rfl rfl)) ?_
  rintro _ w121 ⟨b24, rfl, hA⟩
  replace H := H.alloc hA
  replace H := H.asSl (i := 0) rfl 5 1 rfl (by decide)
  refine RL_do rfl rfl (Do_move (v := .slice _ _ _) rfl) ?_
  refine RL_ex rfl rfl (Ex_append u22 el5 rfl rfl (Sep.sl (i := 0) H rfl) (hr.only (Sep.only H) (by simp)) one_bys (by rw [maxLen_eq]; omega) (by omega)) ?_
  rintro va6 w122 hA
  replace H := H.app (i := 0) rfl hA
  refine RL_ex rfl rfl (Ex_bs u22 el5 (by decide) (by decide) (fillB_nums (ns := [9, 8, 7, 6, 5, 4, 3]) rfl rfl)) ?_
  rintro _ w123 ⟨b25, rfl, hA⟩
  replace H := H.alloc hA
  refine RL_ex rfl rfl (Ex_append u22 el5 rfl rfl (Sep.sl (i := 0) H rfl) (Blk.slr (Sep.blk (i := 1) H rfl) 7 1 rfl (by decide)) (by simp [Value.oneCell']) (by rw [maxLen_eq]; omega) (by omega)) ?_
  rintro va7 w124 hA
  replace H := H.app (i := 0) rfl hA
  refine RL_do rfl rfl (Do_assign (v := va7) rfl) ?_
  refine (RL_nil (thenQ_n (hK2 _ _ ?_)))
  refine WP_seq_k fun K3 hK3 => ?_
  refine WP_mix [.pure, .pure, .pure, .pure, .pure, .pure, .pure, .pure] mixed (by kernel_rfl) (by kernel_rfl) (by kernel_rfl) ?_
  obtain ⟨g, cap, R0, rfl, -, hc1, hc2⟩ := owns_some (Sep.sl (i := 0) H rfl) (by omega)
  have hc3 := hc2
  rw [maxLen_eq] at hc3
  have hg2 := (Sep.ge (i := 0) H rfl (b := g) (by simp [It.blocks, ob, sblk])).resolve_right (by simp)
  refine XL_pure rfl rfl rfl (fun w' => Do_move (v := .slice _ _ _) rfl) ?_
  refine XL_pure rfl rfl rfl (fun w' => Do_move (v := .slice _ _ _) rfl) ?_
  refine XL_pure rfl rfl rfl (fun w' => Do_move (v := .slice _ _ _) rfl) ?_
  refine XL_pure rfl rfl rfl (fun w' => Do_len u22 rfl) ?_
  refine XL_pure rfl rfl rfl (fun w' => Do_add rfl rfl (wrap_i64 (by omega) (by omega))) ?_
  refine XL_pure rfl rfl rfl (fun w' => Do_slice_in u22 sz5 (i := 5) (j := m) rfl rfl rfl (by omega) (by omega) (by omega) (by omega) rfl) ?_
  refine XL_pure rfl rfl rfl (fun w' => Do_assign (v := .slice _ _ _) rfl) ?_
  refine XL_pure rfl rfl rfl (fun w' => Do_assign (v := .slice _ _ _) rfl) ?_
  refine XL_nil fun w125 hS => ?_
  replace H := H.sees hS
  refine (thenQ_n (hK3 _ _ ?_))
  refine (WP_ret (post2 (v1 := .slice _ _ _) (v2 := .slice _ _ _) rfl rfl rfl ?_))
  obtain ⟨g1, cap1, R_, e1, hg, -, -⟩ := owns_some (H.sl (i := 0) rfl) (by omega)
  cases e1
  refine ⟨g, cap, R_, by rw [show 5 + m + 7 = m + 12 by omega], ?_, by omega, hc2, hg2, H.kept⟩
  have e : byr (ins xs) R_ = (List.map (Value.int IntKind.u8) [1, 2, 3, 4, 5] ++ bys xs ++ List.map (Value.int IntKind.u8) [9, 8, 7, 6, 5, 4, 3]) ++ R_ := by simp [byr, bys, ins, pre5, post7]
  rw [e]; exact hg

/-- orangebox/orangeboxlaw1.kept -/
theorem kept_c (xs : List Nat) (m : Nat) (hm : xs.length = m) (hx : Byte xs) (b cap : Nat) (R_ : List Value) (hc : m + 12 ≤ cap) (hc2 : cap ≤ maxLen) (w : World) (hb : Blk w b (byr (ins xs) R_) 5) :
    Calls Tryd.prog 20 #[.slice (some ⟨b, 0, none⟩) (m + 12) cap] w fun e w' => e = .returned (.bool true) ∧ Below w.heap.size w w' := by
  refine calls_of_WP (args := [.slice (some ⟨b, 0, none⟩) (m + 12) cap]) 16 Tryd.func20 rfl rfl rfl ?_
  rw [maxLen_eq] at hc2
  subst hm
  have H := Sep.start [] w
  refine WP_seq_k fun K1 hK1 => ?_
  refine WP_region ?_
  refine RL_do rfl rfl (Do_assign rfl) ?_
  refine (RL_nil (thenQ_n (hK1 _ _ ?_)))
  refine WP_seq_k fun K2 hK2 => ?_
  refine WP_region ?_
  refine RL_do rfl rfl (Do_move (v := .slice _ _ _) rfl) ?_
  refine RL_do rfl rfl (Do_slice_hi u22 sz5 (j := 5) rfl rfl rfl (by omega) (by omega)) ?_
  refine RL_ex rfl rfl (Ex_bs u22 el5 (by decide) (by decide) (fillB_nums (ns := [1, 2, 3, 4, 5]) rfl rfl)) ?_
  rintro _ w126 ⟨b26, rfl, hA⟩
  replace H := H.alloc hA
  refine RL_call rfl rfl (DoC_func en19 rfl) (beq_c _ 5 pre5 (all_small (by decide) (by decide)) _ 5 pre5 (all_small (by decide) (by decide)) w126 (Blk.slo (hb.only (Sep.only H) (by simp)) (o := 0) (n := 5) (s := 1) (xs := bys pre5) (by rw [byr_part (by rw [ins_len]; omega)]; exact congrArg bys (ins_pre xs)) rfl (by omega) (by rw [maxLen_eq]; omega)) (Blk.slr (Sep.blk (i := 0) H rfl) 5 1 rfl (by decide))) ?_
  rintro _ w127 ⟨rfl, hB⟩
  replace H := H.below hB
  refine ⟨_, rfl, ?_⟩
  first | refine RL_split rfl rfl rfl (fun c1 => ?_) (fun c1 => ?_) | refine RL_splitb rfl rfl rfl (fun c1 => ?_) (fun c1 => ?_)
  · skip
    refine RL_do rfl rfl (Do_move (v := .slice _ _ _) rfl) ?_
    refine RL_do rfl rfl (Do_move (v := .slice _ _ _) rfl) ?_
    refine RL_do rfl rfl (Do_len u22 rfl) ?_
    refine RL_do rfl rfl (Do_sub rfl rfl (wrap_i64 (by omega) (by omega))) ?_
    refine RL_do rfl rfl (Do_slice_lo u22 sz5 (i := xs.length + 5) (m := xs.length + 5) rfl rfl (by omega) (by omega) (by omega) (by omega)) ?_
    refine RL_ex rfl rfl (Ex_bs u22 el5 (by decide) (by decide) (fillB_nums (ns := [9, 8, 7, 6, 5, 4, 3]) rfl rfl)) ?_
    rintro _ w128 ⟨b27, rfl, hA⟩
    replace H := H.alloc hA
    refine RL_call rfl rfl (DoC_func en19 rfl) (beq_c _ 7 post7 (all_small (by decide) (by decide)) _ 7 post7 (all_small (by decide) (by decide)) w128 (((Blk.slo (hb.only (Sep.only H) (by simp)) (o := xs.length + 5) (n := 7) (s := 1) (xs := bys post7) (by rw [byr_part (by rw [ins_len]; omega)]; exact congrArg bys (ins_post xs)) rfl (by omega) (by rw [maxLen_eq]; omega)) : SlR _ (.slice (some ⟨b, xs.length + 5, none⟩) 7 (cap - (xs.length + 5))) 1 7 (bys post7)) |> fun h => by rwa [show xs.length + 12 - (xs.length + 5) = 7 by omega]) (Blk.slr (Sep.blk (i := 1) H rfl) 7 1 rfl (by decide))) ?_
    rintro _ w129 ⟨rfl, hB⟩
    replace H := H.below hB
    refine ⟨_, rfl, ?_⟩
    refine RL_do rfl rfl (Do_pick_t (v := .bool _) rfl rfl) ?_
    refine RL_do rfl rfl (Do_assign (v := .bool _) rfl) ?_
    refine (RL_nil (thenQ_n (hK2 _ _ ?_)))
    refine (WP_ret (post1 (v1 := .bool _) rfl rfl ?_))
    exact ⟨by rw [decide_eq_true rfl], H.kept⟩
  · exact absurd (by exact c1 rfl : False) id
end Go.Proofs.YtafgmocdnjdmoaaDoor
