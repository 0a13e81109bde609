/- The law of reading: for every input the call returns true. -/
import Derived.Test.YtafgmocdnjdmoaaDoorAV2
import Derived.Test.YtafgmocdnjdmoaaDoorAn6
import Derived.Test.YtafgmocdnjdmoaaDoorOpf
namespace Go.Proofs.YtafgmocdnjdmoaaDoor
open Go.RowKit Go.OB Go.Lf Go.Fr1
theorem tabHr (W : World) (tc : Cells W ⟨0, 0, none⟩ (wds tab)) (hp : 0 < W.heap.size) : (Fz.at 0 0 ((Fl.arr 4 (Fl.int .u16)).f G_frame_syncs)).p (frees [] []) W := ⟨by simp [frees, bks], hp, tc⟩
theorem FrameRead_c (f : List Nat) (hl : f.length = 64) (hs : Small f) (W : World) (tc : Cells W ⟨0, 0, none⟩ (wds tab)) (hp : 0 < W.heap.size) :
    Calls Tryd.prog 13 #[.agg (wds f).toArray] W fun e w' => e = .returned (.bool true) ∧ Below W.heap.size W w' := by
  have H := (Hd.fresh0 W).fzs [.at 0 0 ((Fl.arr 4 (Fl.int .u16)).f G_frame_syncs)] ⟨tabHr W tc hp, trivial⟩
  have q := L.F_law1_FrameReadMatchesSpec_w (en f hl) true (law_Read hs) [] [] W H
  rw [en_cells] at q
  exact q.mono fun e w' ⟨h1, G⟩ => ⟨h1, G.only.below⟩
end Go.Proofs.YtafgmocdnjdmoaaDoor
