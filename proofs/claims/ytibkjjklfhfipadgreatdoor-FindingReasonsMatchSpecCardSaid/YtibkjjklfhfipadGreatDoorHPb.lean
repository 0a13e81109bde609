/- Laws that the claim stands on; no condition beyond those stated. -/
import Derived.Test.YtibkjjklfhfipadGreatDoorXVp
namespace Go.Lf
open Go.RowKit Go.OB

def zY:Arr 20 Int:=⟨[1,10,100,1000,10000,100000,1000000,10000000,100000000,1000000000,10000000000,100000000000,1000000000000,10000000000000,100000000000000,1000000000000000,10000000000000000,100000000000000000,1000000000000000000,10000000000000000000],rfl⟩
def yX:Arr 7 Str:=⟨[[],[60],[60,61],[61],[33,61],[62,61],[62]],rfl⟩
def Fch (a:Int):Option Int:=
 gJ (IntKind.i64.wrap (a*78913)) λb=>
 gB (aEa .i64 b 18) λc=>
 some c

def Fdw (a:Bool):Option Int:=
 gK a
 (some 1)
 (some 0)

def Fej (f:Int):Option Int:=
 gB (Fe9 f) λh=>
 gB (Fch h) λa=>
 gB (at' zY.l a) λb=>
 gJ (decide (b<=f)) λc=>
 gB (Fdw c) λd=>
 gJ (IntKind.i64.wrap (a+d)) λe=>
 some e
end Go.Lf
