/- The law of new frames: for every input the call returns true. -/
import Derived.Test.YtafgmocdnjdmoaaDoorAV1
import Derived.Test.YtafgmocdnjdmoaaDoorAn7
import Derived.Test.YtafgmocdnjdmoaaDoorOpf
import Derived.Test.YtafgmocdnjdmoaaDoorOpx
namespace Go.Proofs.YtafgmocdnjdmoaaDoor
open Go.RowKit Go.OB Go.Lf Go.Fr1
theorem tabHn (W : World) (tc : Cells W ⟨0, 0, none⟩ (wds tab)) (hp : 0 < W.heap.size) : (Fz.at 0 0 ((Fl.arr 4 (Fl.int .u16)).f G_frame_syncs)).p (frees [] []) W := ⟨by simp [frees, bks], hp, tc⟩
theorem slIn {W : World} {v : Value} {m : Nat} {z : List Int} (l : z.length = m) (s : SlR W v 1 m (z.map (Value.int .i64))) : SlF (Rp.int .i64) (frees [] []) W v z := by
  subst l
  exact ⟨_, rows_ints.2 rfl, s, fun h b hb => ⟨by simp [frees, bks], s.lt h b hb⟩⟩
theorem FrameNew_c (a0 : Int) (z1 : List Int) (v : Value) {m : Nat} (l1 : z1.length = m) (W : World) (tc : Cells W ⟨0, 0, none⟩ (wds tab)) (hp : 0 < W.heap.size) (s1 : SlR W v 1 m (z1.map (Value.int .i64))) :
    Calls Tryd.prog 12 #[.int .i64 a0, v] W fun e w' => e = .returned (.bool true) ∧ Below W.heap.size W w' := by
  have H := (Hd.fresh0 W).fzs [.sl (Rp.int .i64) v z1, .at 0 0 ((Fl.arr 4 (Fl.int .u16)).f G_frame_syncs)] ⟨slIn l1 s1, tabHn W tc hp, trivial⟩
  have hl := (slIn l1 s1).maxl
  exact (L.F_law1_FrameNewMatchesSpec_w a0 z1 v true (law_New a0 z1 hl) [] [] W H).mono fun e w' ⟨h1, G⟩ => ⟨h1, G.only.below⟩
end Go.Proofs.YtafgmocdnjdmoaaDoor
