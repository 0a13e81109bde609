/- The law of flipped bits: for every input the call returns true. -/
import Derived.Test.YtafgmocdnjdmoaaDoorAV1
import Derived.Test.YtafgmocdnjdmoaaDoorAN
import Derived.Test.YtafgmocdnjdmoaaDoorOpf
import Derived.Test.YtafgmocdnjdmoaaDoorOpx
namespace Go.Proofs.YtafgmocdnjdmoaaDoor
open Go.RowKit Go.OB Go.Lf Go.Fr1
theorem tabHf (W : World) (tc : Cells W ⟨0, 0, none⟩ (wds tab)) (hp : 0 < W.heap.size) : (Fz.at 0 0 ((Fl.arr 4 (Fl.int .u16)).f G_frame_syncs)).p (frees [] []) W := ⟨by simp [frees, bks], hp, tc⟩
theorem slIf {W : World} {v : Value} {m : Nat} {z : List Int} (l : z.length = m) (s : SlR W v 1 m (z.map (Value.int .i64))) : SlF (Rp.int .i64) (frees [] []) W v z := by
  subst l
  exact ⟨_, rows_ints.2 rfl, s, fun h b hb => ⟨by simp [frees, bks], s.lt h b hb⟩⟩
theorem FrameFlips_c (a0 : Int) (z1 z2 : List Int) (v v2 : Value) {m m2 : Nat} (l1 : z1.length = m) (l2 : z2.length = m2) (W : World) (tc : Cells W ⟨0, 0, none⟩ (wds tab)) (hp : 0 < W.heap.size) (s1 : SlR W v 1 m (z1.map (Value.int .i64))) (s2 : SlR W v2 1 m2 (z2.map (Value.int .i64))) :
    Calls Tryd.prog 7 #[.int .i64 a0, v, v2] W fun e w' => e = .returned (.bool true) ∧ Below W.heap.size W w' := by
  have H := (Hd.fresh0 W).fzs [.sl (Rp.int .i64) v z1, .sl (Rp.int .i64) v2 z2, .at 0 0 ((Fl.arr 4 (Fl.int .u16)).f G_frame_syncs)] ⟨slIf l1 s1, slIf l2 s2, tabHf W tc hp, trivial⟩
  have hl := (slIf l2 s2).maxl
  exact (L.F_law1_FrameFlipsAreNoticed_w a0 z1 z2 v v2 true (law_Flips a0 z1 z2 hl) [] [] W H).mono fun e w' ⟨h1, G⟩ => ⟨h1, G.only.below⟩
end Go.Proofs.YtafgmocdnjdmoaaDoor
