/- Contracts of slices.Sort of numbers, math/bits.Add64 and Sub64 at this program. -/
import Derived.Test.YthllgjnlmjpinaaGreatDoorXVc
import Derived.Test.YthllgjnlmjpinaaGreatDoorXVj
import Derived.Test.YthllgjnlmjpinaaGreatDoorSrt
import Derived.Test.YthllgjnlmjpinaaGreatDoorShI
import Derived.Shelf.Spec.BitsCarry
namespace Go.Proofs.YthllgjnlmjpinaaGreatDoor.E
open Go.RowKit Go.OB Go.Lf Go.Sort
theorem Fdcw (p0 : List Int) (v0 : Value) (r : List Int) (hF : Fdc p0 = some r) (O S : List Nat) (w : World) (H : Hd O w w S [.own (Rp.int .i64) v0 3 p0]) :
    Calls Tryz.prog 79 ([v0] : List Value).toArray w fun e w' => e = .returned (.tuple #[]) ∧ Hd O w w' S [.own (Rp.int .i64) v0 3 r] := by
 unfold Fdc at hF;split at hF;rename_i c;have hr := Option.some.inj hF;subst hr;exact sort_own shLays189 H (i := 0) rfl c;cases hF
end Go.Proofs.YthllgjnlmjpinaaGreatDoor.E
