/- Laws that the claim stands on; no condition beyond those stated. -/
import Derived.Test.YthfeackbhgmfbaaGreatDoorXVp
namespace Go.Lf
open Go.RowKit Go.OB

def zX:Arr 20 Int:=⟨[1,10,100,1000,10000,100000,1000000,10000000,100000000,1000000000,10000000000,100000000000,1000000000000,10000000000000,100000000000000,1000000000000000,10000000000000000,100000000000000000,1000000000000000000,10000000000000000000],rfl⟩
def yG:Arr 7 Str:=⟨[[],[60],[60,61],[61],[33,61],[62,61],[62]],rfl⟩
def Fev (a:Int):Option Int:=
 gI (IntKind.i64.wrap (a*78913)) λb=>
 gB (aDy .i64 b 18) λc=>
 some c

def Fe7 (a:Bool):Option Int:=
 gU a
 (some 1)
 (some 0)

def Fgf (f:Int):Option Int:=
 gB (Fgv f) λh=>
 gB (Fev h) λa=>
 gB (at' zX.l a) λb=>
 gI (decide (b<=f)) λc=>
 gB (Fe7 c) λd=>
 gI (IntKind.i64.wrap (a+d)) λe=>
 some e
end Go.Lf
