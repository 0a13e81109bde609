/- Twins that differ: both programs say the same. -/
import Derived.Test.YtgmikmoapfmedaaGreatDoorFIa
namespace Go.Lf
open Go.OB
end Go.Lf
