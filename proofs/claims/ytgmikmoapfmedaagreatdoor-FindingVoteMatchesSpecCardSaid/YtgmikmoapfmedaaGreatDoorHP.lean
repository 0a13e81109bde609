/- Plain functions: what the code computes. -/
import Derived.Test.YtgmikmoapfmedaaGreatDoorHTy

namespace Go.Lf
open Go.RowKit Go.OB
def zT:Arr 20 Int:=⟨[1,10,100,1000,10000,100000,1000000,10000000,100000000,1000000000,10000000000,100000000000,1000000000000,10000000000000,100000000000000,1000000000000000,10000000000000000,100000000000000000,1000000000000000000,10000000000000000000],rfl⟩
def yJ:Arr 7 Str:=⟨[[],[60],[60,61],[61],[33,61],[62,61],[62]],rfl⟩
def Fbs (p0:Int):Option Int:=
  gK (IntKind.i64.wrap (p0 * 78913)) fun x3=>
  gG (aCj .i64 x3 18) fun x5=>
  some x5

def Fb6 (p0:Bool):Option Int:=
  gQ p0
  (some 1)
  (some 0)

def Fb1 (p0:Int):Option Int:=
  gG (Fce p0) fun x5=>
  gG (Fbs x5) fun x10=>
  gG (at' zT.l x10) fun x15=>
  gK (decide (x15≤p0)) fun x17=>
  gG (Fb6 x17) fun x20=>
  gK (IntKind.i64.wrap (x10+x20)) fun x24=>
  some x24
end Go.Lf
