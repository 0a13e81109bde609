/- Laws that the claim stands on; no condition beyond those stated. -/
import Derived.Test.YtibkjjklfhfipacGreatDoorLfR
import Derived.LaidLaws
import Derived.LaidSub
namespace Go.Lf
open Go.RowKit Go.OB
end Go.Lf
