/- Laws that the claim stands on; no condition beyond those stated. -/
import Derived.Test.YtbjofgmdhbiekaaGreatDoorBKc
namespace Go.Lf
open Go.RowKit Go.OB Go.Fr1
end Go.Lf
