/- What arguments are in range. -/
import Derived.Test.YtckmiljbaejijaaGreatDoorUP
import Derived.Test.YtckmiljbaejijaaGreatDoorLfQ
import Derived.Test.YtckmiljbaejijaaGreatDoorPl
namespace Go.Lf
open Go.OB
end Go.Lf
