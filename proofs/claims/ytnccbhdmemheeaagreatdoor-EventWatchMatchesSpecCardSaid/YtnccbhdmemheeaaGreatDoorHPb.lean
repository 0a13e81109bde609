/- Laws that the claim stands on; no condition beyond those stated. -/
import Derived.Test.YtnccbhdmemheeaaGreatDoorXVp
namespace Go.Lf
open Go.RowKit Go.OB

def zX:Arr 20 Int:=⟨[1,10,100,1000,10000,100000,1000000,10000000,100000000,1000000000,10000000000,100000000000,1000000000000,10000000000000,100000000000000,1000000000000000,10000000000000000,100000000000000000,1000000000000000000,10000000000000000000],rfl⟩
def yG:Arr 7 Str:=⟨[[],[60],[60,61],[61],[33,61],[62,61],[62]],rfl⟩
def Fcf (a:Int):Option Int:=
 gJ (IntKind.i64.wrap (a*78913)) λb=>
 gB (aIt .i64 b 18) λc=>
 some c

def Fd9 (a:Bool):Option Int:=
 gQ a
 (some 1)
 (some 0)

def Fd3 (f:Int):Option Int:=
 gB (Ffa f) λh=>
 gB (Fcf h) λa=>
 gB (at' zX.l a) λb=>
 gJ (decide (b<=f)) λc=>
 gB (Fd9 c) λd=>
 gJ (IntKind.i64.wrap (a+d)) λe=>
 some e
end Go.Lf
