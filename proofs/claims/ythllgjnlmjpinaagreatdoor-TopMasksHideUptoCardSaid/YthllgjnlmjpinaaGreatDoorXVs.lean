/- Contracts of slices.SortFunc and slices.Compact of texts at this program. -/
import Derived.Test.YthllgjnlmjpinaaGreatDoorXVp
import Derived.Test.YthllgjnlmjpinaaGreatDoorSrs
import Derived.Test.YthllgjnlmjpinaaGreatDoorShS
namespace Go.Proofs.YthllgjnlmjpinaaGreatDoor.E
open Go.RowKit Go.OB Go.Lf Go.Sort
theorem Fegw (p0 : List Str) (v0 : Value) (r : List Str) (hF : Feg p0 = some r) (O S : List Nat) (w : World) (H : Hd O w w S [.own Rp.str v0 9 p0]) :
    Calls Tryz.prog 164 ([v0, .func (.func 165) #[] #[]] : List Value).toArray w fun e w' => e = .returned (.tuple #[]) ∧ Hd O w w' S [.own Rp.str v0 9 r] := by
 unfold Feg at hF;split at hF;rename_i c;have hr := Option.some.inj hF;subst hr;exact sortS_own aQk shLays106 H (i := 0) rfl c (enters_of Tryz.func165 (by kernel_rfl) rfl);cases hF
theorem Ffnw (p0 : List Str) (v0 : Value) (r : List Str) (hF : Ffn p0 = some r) (O S : List Nat) (w : World) (H : Hd O w w S [.own Rp.str v0 9 p0]) :
    Calls Tryz.prog 166 ([v0] : List Value).toArray w fun e w' => ∃ u, e = .returned u ∧ Hd O w w' S [.own Rp.str u 9 r] := by
 unfold Ffn at hF;split at hF;rename_i c;have hr := Option.some.inj hF;subst hr;exact aLn shLays194 H (i := 0) rfl c;cases hF
end Go.Proofs.YthllgjnlmjpinaaGreatDoor.E
