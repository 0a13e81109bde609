/- The law of reading from bytes: for every input the call returns true. -/
import Derived.Test.YtafgmocdnjdmoaaDoorAV1
import Derived.Test.YtafgmocdnjdmoaaDoorAN
import Derived.Test.YtafgmocdnjdmoaaDoorOpf
namespace Go.Proofs.YtafgmocdnjdmoaaDoor
open Go.RowKit Go.OB Go.Lf Go.Fr1
theorem tabHf (W : World) (tc : Cells W ⟨0, 0, none⟩ (wds tab)) (hp : 0 < W.heap.size) : (Fz.at 0 0 ((Fl.arr 4 (Fl.int .u16)).f G_frame_syncs)).p (frees [] []) W := ⟨by simp [frees, bks], hp, tc⟩
theorem slBf {W : World} {v : Value} {m : Nat} {z : List Nat} (l : z.length = m) (s : SlR W v 1 m (bys z)) : SlF (Rp.int .u8) (frees [] []) W v (nb z) := by
  subst l
  refine ⟨bys z, rows_ints.2 ?_, by rw [nb_len]; exact s, fun h b hb => ⟨by simp [frees, bks], s.lt (by rwa [nb_len] at h) b hb⟩⟩
  simp [bys, nb, lst, Lf.ints]
theorem FrameFrom_c (z0 : List Nat) (a1 : Int) (z2 : List Nat) (a3 : Int) (m0 m2 : Nat) (l0 : z0.length = m0) (l2 : z2.length = m2) (c0 : Byte z0) (c2 : Byte z2) (W : World) (tc : Cells W ⟨0, 0, none⟩ (wds tab)) (hp : 0 < W.heap.size) {v0 v2 : Value} (s0 : SlR W v0 1 m0 (bys z0)) (s2 : SlR W v2 1 m2 (bys z2)) (b1 : i64 a1) (b3 : i64 a3) (u0 : m0 ≤ 1048576) (u2 : m2 ≤ 1048576) :
    Calls Tryd.prog 15 #[v0, .int .i64 a1, v2, .int .i64 a3] W fun e w' => e = .returned (.bool true) ∧ Below W.heap.size W w' := by
  have H := (Hd.fresh0 W).fzs [.sl (Rp.int .u8) v0 (nb z0), .sl (Rp.int .u8) v2 (nb z2), .at 0 0 ((Fl.arr 4 (Fl.int .u16)).f G_frame_syncs)] ⟨slBf l0 s0, slBf l2 s2, tabHf W tc hp, trivial⟩
  exact (L.F_law1_FrameFromBytesMatchesSpec_w (nb z0) a1 (nb z2) a3 v0 v2 true (law_From (by omega) c0 (by omega) c2 b1 b3) [] [] W H).mono fun e w' ⟨h1, G⟩ => ⟨h1, G.only.below⟩
end Go.Proofs.YtafgmocdnjdmoaaDoor
