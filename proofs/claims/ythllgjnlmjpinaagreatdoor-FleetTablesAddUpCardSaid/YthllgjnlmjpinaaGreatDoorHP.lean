/- Plain functions: what the code computes. -/
import Derived.Test.YthllgjnlmjpinaaGreatDoorHTy

namespace Go.Lf
open Go.RowKit Go.OB
def zS:Arr 20 Int:=⟨[1,10,100,1000,10000,100000,1000000,10000000,100000000,1000000000,10000000000,100000000000,1000000000000,10000000000000,100000000000000,1000000000000000,10000000000000000,100000000000000000,1000000000000000000,10000000000000000000],rfl⟩
def Fc2 (p0:Int):Option Int:=
  gQ (IntKind.i64.wrap (p0 * 78913)) fun x3=>
  gB (vN .i64 x3 18) fun x5=>
  some x5

def Fd4 (p0:Bool):Option Int:=
  gU p0
  (some 1)
  (some 0)

def Fds (p0:Int):Option Int:=
  gB (Fdj p0) fun x5=>
  gB (Fc2 x5) fun x10=>
  gB (at' zS.l x10) fun x15=>
  gQ (decide (x15≤p0)) fun x17=>
  gB (Fd4 x17) fun x20=>
  gQ (IntKind.i64.wrap (x10+x20)) fun x24=>
  some x24
end Go.Lf
