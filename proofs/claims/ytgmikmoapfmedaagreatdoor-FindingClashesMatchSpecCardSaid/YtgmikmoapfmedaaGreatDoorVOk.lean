/- What arguments are in range. -/
import Derived.Test.YtgmikmoapfmedaaGreatDoorVP
import Derived.Test.YtgmikmoapfmedaaGreatDoorLfQ
namespace Go.Lf
open Go.OB
def vG (x:fF):Prop:=i64 x.At∧i64 x.N∧i64 x.Mark
def aBe (x:Series):Prop:=i64 x.Den∧okL (fun x=>vG x) x.Samples
def jX (x:gW):Prop:=okS x.Name∧aBe x.Series∧i64 x.Long
end Go.Lf
