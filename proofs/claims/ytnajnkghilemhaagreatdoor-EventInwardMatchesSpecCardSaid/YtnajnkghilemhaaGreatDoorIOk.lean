/- What arguments are in range. -/
import Derived.Test.YtnajnkghilemhaaGreatDoorIP
import Derived.Test.YtnajnkghilemhaaGreatDoorOpx
import Derived.Test.YtnajnkghilemhaaGreatDoorPl
namespace Go.Lf
open Go.OB
end Go.Lf
