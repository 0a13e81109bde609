/- Vote: what is told of a track and a list ends. -/
import Derived.Test.YtgmikmoapfmedaaGreatDoorFv4
import Derived.Test.YtgmikmoapfmedaaGreatDoorFi6
namespace Go.Lf
open Go.OB
end Go.Lf
