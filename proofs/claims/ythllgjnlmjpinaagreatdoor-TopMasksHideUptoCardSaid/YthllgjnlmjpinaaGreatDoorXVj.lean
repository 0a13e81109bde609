/- Functions of Go's library, by contracts: the plain side (Sort, Add64, Sub64). -/
import Derived.Test.YthllgjnlmjpinaaGreatDoorXVp
import Derived.Test.YthllgjnlmjpinaaGreatDoorSrt0
namespace Go.Lf
open Go.RowKit Go.OB
def Fdc (l:List Int):Option (List Int):=if l.length<4611686018427387904 then some (srt l) else none
end Go.Lf
