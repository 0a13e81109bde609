/- Laws that the claim stands on; no condition beyond those stated. -/
import Derived.Test.YtbjofgmdhbiekaaGreatDoorShV
import Derived.Test.YtbjofgmdhbiekaaGreatDoorXVp
namespace Go.Proofs.YtbjofgmdhbiekaaGreatDoor.E
open Go.RowKit Go.OB Go.Lf
theorem Fdnw (b:Int) (r:Int) (a:Fdn b=some r) (O S:List Nat) (w:World) (H:Hd O w w S []):
    Calls Tryz.prog (ren.f 129) ([.int .u64 b]:List Value).toArray w λe w'=>e= .returned (.int .i64 r)/\Hd O w w' S []:=by
 unfold Fdn at a;split at a;rename_i c;have d:=oI a;subst d;exact(Any.bits_Len64 shLays129 b w c.1 c.2).mono λe w' ⟨g,h⟩=>⟨g,by subst h;exact H⟩;cases a
end Go.Proofs.YtbjofgmdhbiekaaGreatDoor.E
