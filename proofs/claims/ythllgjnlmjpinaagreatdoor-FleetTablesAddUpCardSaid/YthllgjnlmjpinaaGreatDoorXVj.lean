/- Functions of Go's library, by contracts: the plain side (Sort, Add64, Sub64). -/
import Derived.Test.YthllgjnlmjpinaaGreatDoorXVp
import Derived.Test.YthllgjnlmjpinaaGreatDoorSrt0
namespace Go.Lf
open Go.RowKit Go.OB
end Go.Lf
