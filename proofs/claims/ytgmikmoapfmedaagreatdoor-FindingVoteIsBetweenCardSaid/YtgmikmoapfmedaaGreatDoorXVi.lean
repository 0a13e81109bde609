/- Contracts of slices.Sort of numbers, math/bits.Add64 and Sub64 at this program. -/
import Derived.Test.YtgmikmoapfmedaaGreatDoorXVc
import Derived.Test.YtgmikmoapfmedaaGreatDoorXVj
import Derived.Test.YtgmikmoapfmedaaGreatDoorShI
import Derived.Shelf.Spec.BitsCarry
namespace Go.Proofs.YtgmikmoapfmedaaGreatDoor.E
open Go.RowKit Go.OB Go.Lf Go.Sort
theorem Fbew (p0 : List Int) (v0 : Value) (r : List Int) (hF : Fbe p0 = some r) (O S : List Nat) (w : World) (H : Hd O w w S [.own (Rp.int .i64) v0 3 p0]) :
    Calls Tryz.prog 62 ([v0] : List Value).toArray w fun e w' => e = .returned (.tuple #[]) ∧ Hd O w w' S [.own (Rp.int .i64) v0 3 r] := by
  unfold Fbe at hF
  split at hF
  · rename_i c
    have hr := Option.some.inj hF
    subst hr
    exact sort_own shLays189 H (i := 0) rfl c
  · cases hF

end Go.Proofs.YtgmikmoapfmedaaGreatDoor.E
