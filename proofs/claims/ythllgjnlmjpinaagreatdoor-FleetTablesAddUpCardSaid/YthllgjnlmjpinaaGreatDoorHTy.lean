/- The types of data: how they lie in memory. -/
import Derived.Test.YthllgjnlmjpinaaGreatDoorXVp
namespace Go.Lf
open Go.RowKit Go.OB

end Go.Lf
