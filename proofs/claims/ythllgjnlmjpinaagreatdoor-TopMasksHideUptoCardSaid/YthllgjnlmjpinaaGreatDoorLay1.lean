/- Package variables that a row lists: texts, and errors. -/
import Derived.Test.YthllgjnlmjpinaaGreatDoorLfR
import Derived.LaidLaws
import Derived.Lib.LaidTab
import Derived.LaidSub
namespace Go.Lf
open Go.RowKit Go.OB
end Go.Lf
