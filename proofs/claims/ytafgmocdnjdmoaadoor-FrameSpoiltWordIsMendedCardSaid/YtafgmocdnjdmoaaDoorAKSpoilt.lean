/- The law of spoilt words: for every input the call returns true. -/
import Derived.Test.YtafgmocdnjdmoaaDoorAV1
import Derived.Test.YtafgmocdnjdmoaaDoorAn5
import Derived.Test.YtafgmocdnjdmoaaDoorOpf
namespace Go.Proofs.YtafgmocdnjdmoaaDoor
open Go.RowKit Go.OB Go.Lf Go.Fr1
theorem tabHs (W : World) (tc : Cells W ⟨0, 0, none⟩ (wds tab)) (hp : 0 < W.heap.size) : (Fz.at 0 0 ((Fl.arr 4 (Fl.int .u16)).f G_frame_syncs)).p (frees [] []) W := ⟨by simp [frees, bks], hp, tc⟩
theorem slI {W : World} {v : Value} {m : Nat} {z : List Int} (l : z.length = m) (s : SlR W v 1 m (z.map (Value.int .i64))) : SlF (Rp.int .i64) (frees [] []) W v z := by
  subst l
  exact ⟨_, rows_ints.2 rfl, s, fun h b hb => ⟨by simp [frees, bks], s.lt h b hb⟩⟩
theorem FrameSpoilt_c (a0 : Int) (z1 : List Int) (a2 a3 : Int) (v : Value) {m : Nat} (l1 : z1.length = m) (W : World) (tc : Cells W ⟨0, 0, none⟩ (wds tab)) (hp : 0 < W.heap.size) (s1 : SlR W v 1 m (z1.map (Value.int .i64))) (b3 : -9223372036854775808 ≤ a3 ∧ a3 ≤ 9223372036854775807) :
    Calls Tryd.prog 11 #[.int .i64 a0, v, .int .i64 a2, .int .i64 a3] W fun e w' => e = .returned (.bool true) ∧ Below W.heap.size W w' := by
  have H := (Hd.fresh0 W).fzs [.sl (Rp.int .i64) v z1, .at 0 0 ((Fl.arr 4 (Fl.int .u16)).f G_frame_syncs)] ⟨slI l1 s1, tabHs W tc hp, trivial⟩
  exact (L.F_law1_FrameSpoiltWordIsMended_w a0 z1 a2 a3 v true (law_Spoilt a0 z1 a2 a3 b3) [] [] W H).mono fun e w' ⟨h1, G⟩ => ⟨h1, G.only.below⟩
end Go.Proofs.YtafgmocdnjdmoaaDoor
