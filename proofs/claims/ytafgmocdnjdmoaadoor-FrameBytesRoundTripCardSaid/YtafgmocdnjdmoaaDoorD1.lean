/- FromBytes, from its lifted walk. -/
import Derived.Test.YtafgmocdnjdmoaaDoorAV0
import Derived.Test.YtafgmocdnjdmoaaDoorAN
import Derived.Test.YtafgmocdnjdmoaaDoorByu
namespace Go.Proofs.YtafgmocdnjdmoaaDoor
open Go.RowKit Go.OB Go.Lf Go.Fr1
theorem slBd {W : World} {v : Value} {m : Nat} {z : List Nat} (l : z.length = m) (s : SlR W v 1 m (bys z)) : SlF (Rp.int .u8) (frees [] []) W v (nb z) := by
  subst l
  refine ⟨bys z, rows_ints.2 ?_, by rw [nb_len]; exact s, fun h b hb => ⟨by simp [frees, bks], s.lt (by rwa [nb_len] at h) b hb⟩⟩
  simp [bys, nb, lst, Lf.ints]
theorem FromBytes_c (v : Value) (xs : List Nat) (m : Nat) (hm : xs.length = m) (hx : Byte xs) (h96 : 96 ≤ m) (hM : m ≤ 4611686018427387903) (w : World) (hr : SlR w v 1 m (bys xs)) :
    Calls Tryd.prog 37 #[v] w fun e w' => e = .returned (.tuple #[.agg (wds (loadN xs 0)).toArray, .int .i64 0]) ∧ Below w.heap.size w w' := by
  have H := (Hd.fresh0 w).fzs [.sl (Rp.int .u8) v (nb xs)] ⟨slBd hm hr, trivial⟩
  have q : F_frame_FromBytes (nb xs) = some (en (loadN xs 0) (loadN_len xs 0), 0) := by
    have hl := nb_len xs
    unfold F_frame_FromBytes
    simp only [letO_eq, hl]
    rw [decide_eq_false (show ¬ (xs.length : Int) < 96 by omega), iteB_fa]
    have q := sub96 (L := xs) (a := 0) (by omega) (by omega)
    have q2 : sub' (nb xs) 0 96 = some (nb (pl96 xs 0)) := q.2.1
    rw [q2, bindO_s, q.2.2, bindO_s, load_eq (pl96_byte hx 0), bindO_s]
    have e : en (loadN (pl96 xs 0) 0) (loadN_len _ 0) = en (loadN xs 0) (loadN_len xs 0) := en_inj.2 (by unfold pl96; rw [loadN_take]; rfl)
    rw [e]
  have p := L.F_frame_FromBytes_w (nb xs) v _ q [] [] w H
  rw [en_cells] at p
  exact p.mono fun e w' ⟨h1, G⟩ => ⟨h1, G.only.below⟩
end Go.Proofs.YtafgmocdnjdmoaaDoor
