/- Contracts of slices.SortFunc and slices.Compact of texts at this program. -/
import Derived.Test.YtgmikmoapfmedaaGreatDoorXVp
import Derived.Test.YtgmikmoapfmedaaGreatDoorSrs
import Derived.Test.YtgmikmoapfmedaaGreatDoorShS
namespace Go.Proofs.YtgmikmoapfmedaaGreatDoor.E
open Go.RowKit Go.OB Go.Lf Go.Sort
theorem Fdsw (p0 : List Str) (v0 : Value) (r : List Str) (hF : Fds p0 = some r) (O S : List Nat) (w : World) (H : Hd O w w S [.own Rp.str v0 9 p0]) :
    Calls Tryz.prog 148 ([v0, .func (.func 149) #[] #[]] : List Value).toArray w fun e w' => e = .returned (.tuple #[]) ∧ Hd O w w' S [.own Rp.str v0 9 r] := by
  unfold Fds at hF
  split at hF
  · rename_i c
    have hr := Option.some.inj hF
    subst hr
    exact sortS_own aCx shLays106 H (i := 0) rfl c (enters_of Tryz.func149 (by kernel_rfl) rfl)
  · cases hF
theorem Fczw (p0 : List Str) (v0 : Value) (r : List Str) (hF : Fcz p0 = some r) (O S : List Nat) (w : World) (H : Hd O w w S [.own Rp.str v0 9 p0]) :
    Calls Tryz.prog 150 ([v0] : List Value).toArray w fun e w' => ∃ u, e = .returned u ∧ Hd O w w' S [.own Rp.str u 9 r] := by
  unfold Fcz at hF
  split at hF
  · rename_i c
    have hr := Option.some.inj hF
    subst hr
    exact aAh shLays194 H (i := 0) rfl c
  · cases hF
end Go.Proofs.YtgmikmoapfmedaaGreatDoor.E
