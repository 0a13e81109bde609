/- Contracts of slices.Sort and math/bits.Div64 at this program. -/
import Derived.Test.YtbjhondbheijiaaGreatXZ1
import Derived.Test.YtbjhondbheijiaaGreatShZ
import Derived.Test.YtbjhondbheijiaaGreatLf7
namespace Go.Proofs.YtbjhondbheijiaaGreat.E
open Go.RowKit Go.OB Go.Lf Go.Sort
theorem zmixed : Tryz.prog.follows .mixedOrders = true := by kernel_rfl
theorem X_Sort_w (p0 : List Int) (v0 : Value) (r : List Int) (hF : X_Sort p0 = some r) (O S : List Nat) (w : World) (H : Hd O w w S [.own (Rp.int .i64) v0 3 p0]) :
    Calls Tryz.prog 31 ([v0] : List Value).toArray w fun e w' => e = .returned (.tuple #[]) ∧ Hd O w w' S [.own (Rp.int .i64) v0 3 r] := by
  unfold X_Sort at hF
  split at hF
  · rename_i c
    have hr := Option.some.inj hF
    subst hr
    exact sort_own shLays189 H (i := 0) rfl c
  · cases hF
theorem X_Div64_w (p0 p1 p2 : Int) (r : Int × Int) (hF : X_Div64 p0 p1 p2 = some r) (O S : List Nat) (w : World) (H : Hd O w w S []) :
    Calls Tryz.prog 57 ([.int .u64 p0, .int .u64 p1, .int .u64 p2] : List Value).toArray w fun e w' => e = .returned (.tuple #[.int .u64 r.1, .int .u64 r.2]) ∧ Hd O w w' S [] := by
  unfold X_Div64 at hF
  split at hF
  rotate_left
  · cases hF
  rename_i c
  obtain ⟨rfl, c1, c2, c3, c4⟩ := c
  have hr := Option.some.inj hF
  subst hr
  have hq : quo' .u64 p1 p2 = some (p1 / p2) := by
    unfold quo'
    have h1 : p1.tdiv p2 = p1 / p2 := Int.tdiv_eq_ediv_of_nonneg c1
    have h2 : 0 ≤ p1 / p2 := Int.ediv_nonneg c1 (by omega)
    have h3 : p1 / p2 ≤ p1 := Int.ediv_le_self _ c1
    rw [if_neg (by omega), h1, IntKind.wrap_u64]
    congr 1; omega
  have hm : rem' p1 p2 = some (p1 % p2) := by
    unfold rem'
    rw [if_neg (by omega), Int.tmod_eq_emod_of_nonneg c1]
  refine calls_of_WP 135 Tryz.func57 rfl rfl rfl ?_
  refine WP_seq_k fun K1 hK1 => ?_
  refine WP_region ?_
  refine RL_do rfl rfl (Do_assign (v := .int _ _) rfl) ?_
  refine RL_do rfl rfl (Do_assign (v := .int _ _) rfl) ?_
  refine (RL_nil (thenQ_n (hK1 _ _ ?_)))
  refine WP_seq_k fun K2 hK2 => ?_
  refine WP_seq_k fun K3 hK3 => ?_
  refine WP_region ?_
  refine RL_do rfl rfl (Do_move (v := .int _ _) rfl) ?_
  refine RL_do rfl rfl (Do_eql rfl rfl) ?_
  refine (RL_nil (thenQ_n (hK3 _ _ ?_)))
  first | refine WP_if rfl (fun c5 => ?_) (fun c5 => ?_) | refine WP_ifb rfl (fun c5 => ?_) (fun c5 => ?_)
  · exfalso; omega
  refine (WP_skip (thenQ_n (hK2 _ _ ?_)))
  refine WP_seq_k fun K4 hK4 => ?_
  refine WP_seq_k fun K5 hK5 => ?_
  refine WP_region ?_
  refine RL_do rfl rfl (Do_move (v := .int _ _) rfl) ?_
  refine RL_do rfl rfl (Do_move (v := .int _ _) rfl) ?_
  refine RL_do rfl rfl (Do_leq rfl rfl) ?_
  refine (RL_nil (thenQ_n (hK5 _ _ ?_)))
  first | refine WP_if rfl (fun c6 => ?_) (fun c6 => ?_) | refine WP_ifb rfl (fun c6 => ?_) (fun c6 => ?_)
  · exfalso; omega
  refine (WP_skip (thenQ_n (hK4 _ _ ?_)))
  refine WP_seq_k fun K6 hK6 => ?_
  refine WP_seq_k fun K7 hK7 => ?_
  refine WP_region ?_
  refine RL_do rfl rfl (Do_move (v := .int _ _) rfl) ?_
  refine RL_do rfl rfl (Do_eql rfl rfl) ?_
  refine (RL_nil (thenQ_n (hK7 _ _ ?_)))
  first | refine WP_if rfl (fun c7 => ?_) (fun c7 => ?_) | refine WP_ifb rfl (fun c7 => ?_) (fun c7 => ?_)
  rotate_left
  · exact absurd rfl c7
  refine WP_seq_k fun K8 hK8 => ?_
  have H0 := H
  have H := H.rebase
  refine WP_mix0 H [0, 1, 2, 3, 4, 5, 6, 7] [.pure, .pure, .pure, .pure, .pure, .pure, .pure, .pure] zmixed (by kernel_rfl) (by kernel_rfl) (by kernel_rfl) rfl ?_
  refine Mx.XL_pure rfl rfl rfl (fun w' hw' => Do_move (v := .int .u64 p1) rfl) ?_
  refine Mx.XL_pure rfl rfl rfl (fun w' hw' => Do_move (v := .int .u64 p2) rfl) ?_
  refine Mx.XL_pure rfl rfl rfl (fun w' hw' => Do_quo' (j := p1) (q := p2) rfl rfl hq) ?_
  refine Mx.XL_pure rfl rfl rfl (fun w' hw' => Do_move (v := .int .u64 p1) rfl) ?_
  refine Mx.XL_pure rfl rfl rfl (fun w' hw' => Do_move (v := .int .u64 p2) rfl) ?_
  refine Mx.XL_pure rfl rfl rfl (fun w' hw' => Do_rem' (j := p1) (q := p2) rfl rfl hm) ?_
  refine Mx.XL_pure rfl rfl rfl (fun w' hw' => Do_assign (v := .int .u64 (p1 / p2)) rfl) ?_
  refine Mx.XL_pure rfl rfl rfl (fun w' hw' => Do_assign (v := .int .u64 (p1 % p2)) rfl) ?_
  refine Mx.XL_nil fun w2 hS => ?_
  have H := H.sees hS
  have H := H0.rejoin H
  refine (thenQ_n (hK8 _ _ ?_))
  refine (WP_ret (thenQ_r (post2 (v1 := .int .u64 (p1 / p2)) (v2 := .int .u64 (p1 % p2)) rfl rfl rfl ?_)))
  exact ⟨rfl, H.pick [] (by decide)⟩
end Go.Proofs.YtbjhondbheijiaaGreat.E
