/- Functions of Go's library, by contracts: the plain side (Sort, Add64, Sub64). -/
import Derived.Test.YtgmikmoapfmedaaGreatDoorXVp
import Derived.Test.YtgmikmoapfmedaaGreatDoorSrt
namespace Go.Lf
open Go.RowKit Go.OB
def Fbe (l:List Int):Option (List Int):=if l.length<4611686018427387904 then some (srt l) else none
end Go.Lf
