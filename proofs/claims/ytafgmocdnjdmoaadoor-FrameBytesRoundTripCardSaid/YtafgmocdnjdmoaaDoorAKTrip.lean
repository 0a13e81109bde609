/- The law of the round trip: for every input the call returns true. -/
import Derived.Test.YtafgmocdnjdmoaaDoorC27
import Derived.Test.YtafgmocdnjdmoaaDoorOpf
namespace Go.Proofs.YtafgmocdnjdmoaaDoor
open Go.RowKit Go.OB Go.Fr1
theorem FrameTrip_c (f : List Nat) (hl : f.length = 64) (hs : Small f) (v : Value) (xs : List Nat) (m : Nat) (hm : xs.length = m) (hx : Byte xs) (hM : m ≤ 140737488351232) (W : World) (tc : Cells W ⟨0, 0, none⟩ (wds tab)) (hp : 0 < W.heap.size) (hr : SlR W v 1 m (bys xs)) :
    Calls Tryd.prog 8 #[.agg (wds f).toArray, v] W fun e w' => e = .returned (.bool true) ∧ Below W.heap.size W w' := by
  by_cases hw : wideN f
  · exact RoundTrip_w f hl hs v xs m hm hx hM W hw tc hp hr
  · exact RoundTrip_n f hl hs v xs m hm hx hM W hw tc hp hr
end Go.Proofs.YtafgmocdnjdmoaaDoor
