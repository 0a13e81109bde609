/- Plain functions: what the code computes. -/
import Derived.Test.YtckmiljbaejijaaGreatDoorHTy

namespace Go.Lf
open Go.RowKit Go.OB
def zO:Arr 20 Int:=⟨[1,10,100,1000,10000,100000,1000000,10000000,100000000,1000000000,10000000000,100000000000,1000000000000,10000000000000,100000000000000,1000000000000000,10000000000000000,100000000000000000,1000000000000000000,10000000000000000000],rfl⟩
def yT:Arr 4 Int:=⟨[583,1464,2631,3512],rfl⟩
def Fce (p0:Int):Option Int:=
  letO (IntKind.i64.wrap (p0 * 78913)) fun x3=>
  bindO (shr' .i64 x3 18) fun x5=>
  some x5

def Fc7 (p0:Bool):Option Int:=
  iteB p0
  (some 1)
  (some 0)

def Fdf (p0:Int):Option Int:=
  bindO (Fc4 p0) fun x5=>
  bindO (Fce x5) fun x10=>
  bindO (at' zO.l x10) fun x15=>
  letO (decide (x15≤p0)) fun x17=>
  bindO (Fc7 x17) fun x20=>
  letO (IntKind.i64.wrap (x10+x20)) fun x24=>
  some x24
end Go.Lf
