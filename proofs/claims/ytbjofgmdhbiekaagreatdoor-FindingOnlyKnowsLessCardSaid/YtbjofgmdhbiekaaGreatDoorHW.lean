/- Laws that the claim stands on; no condition beyond those stated. -/
import Derived.Test.YtbjofgmdhbiekaaGreatDoorHPb
import Derived.Test.YtbjofgmdhbiekaaGreatDoorXVa
namespace Go.Proofs.YtbjofgmdhbiekaaGreatDoor.E
open Go.RowKit Go.OB Go.Lf
end Go.Proofs.YtbjofgmdhbiekaaGreatDoor.E
