/- Walks: what each function computes, for every argument; no condition but those that stand in the statements. -/
import Derived.Test.YthllgjnlmjpinaaGreatDoorXVp
namespace Go.Lf
open Go.RowKit Go.OB

end Go.Lf

namespace Go.Lf
open Go.RowKit Go.OB
def zO:Arr 20 Int:=⟨[1,10,100,1000,10000,100000,1000000,10000000,100000000,1000000000,10000000000,100000000000,1000000000000,10000000000000,100000000000000,1000000000000000,10000000000000000,100000000000000000,1000000000000000000,10000000000000000000],rfl⟩
def xN:Arr 4 Int:=⟨[583,1464,2631,3512],rfl⟩
def Fcn (p0:Int):Option Int:=
  gK (IntKind.i64.wrap (p0 * 78913)) fun x3=>
  gG (rY .i64 x3 18) fun x5=>
  some x5

def Fej (p0:Bool):Option Int:=
  gU p0
  (some 1)
  (some 0)

def Fel (p0:Int):Option Int:=
  gG (Ffl p0) fun x5=>
  gG (Fcn x5) fun x10=>
  gG (at' zO.l x10) fun x15=>
  gK (decide (x15≤p0)) fun x17=>
  gG (Fej x17) fun x20=>
  gK (IntKind.i64.wrap (x10+x20)) fun x24=>
  some x24
end Go.Lf
