/- The types of data: how they lie in memory. -/
import Derived.Test.YtbjhondbheijiaaGreatDoorXY1
namespace Go.Lf
open Go.RowKit Go.OB

end Go.Lf
