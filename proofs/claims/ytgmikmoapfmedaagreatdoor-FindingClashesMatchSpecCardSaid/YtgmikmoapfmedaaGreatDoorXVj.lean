/- Functions of Go's library, by contracts: the plain side (Sort, Add64, Sub64). -/
import Derived.Test.YtgmikmoapfmedaaGreatDoorXVp
import Derived.Test.YtgmikmoapfmedaaGreatDoorSrt
namespace Go.Lf
open Go.RowKit Go.OB
def Fad (x y c:Int):Option (Int×Int):=if 0≤x∧0≤y∧0≤c∧c≤1 then some ((x+y+c) % 18446744073709551616,(x+y+c) / 18446744073709551616) else none
def Fab (x y b:Int):Option (Int×Int):=if 0≤x∧0≤y∧0≤b∧b≤1∧y+b≤x+18446744073709551616 then some ((x+18446744073709551616 - y - b) % 18446744073709551616,if x<y+b then 1 else 0) else none
end Go.Lf
