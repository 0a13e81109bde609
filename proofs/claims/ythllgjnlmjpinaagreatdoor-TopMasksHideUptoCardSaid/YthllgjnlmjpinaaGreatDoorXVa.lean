/- bits.Len64, by the shelf's contract. -/
import Derived.Test.YthllgjnlmjpinaaGreatDoorShV
import Derived.Test.YthllgjnlmjpinaaGreatDoorXVp
namespace Go.Proofs.YthllgjnlmjpinaaGreatDoor.E
open Go.RowKit Go.OB Go.Lf
theorem Fflw (p0 : Int) (r : Int) (hF : Ffl p0 = some r) (O S : List Nat) (w : World) (H : Hd O w w S []) :
    Calls Tryz.prog (ren.f 129) ([.int .u64 p0] : List Value).toArray w fun e w' => e = .returned (.int .i64 r) ∧ Hd O w w' S [] := by
 unfold Ffl at hF;split at hF;rename_i c;have hr := Option.some.inj hF;subst hr;exact (Any.bits_Len64 shLays129 p0 w c.1 c.2).mono fun e w' ⟨h1, h2⟩ => ⟨h1, by subst h2; exact H⟩;cases hF
end Go.Proofs.YthllgjnlmjpinaaGreatDoor.E
