/- Laws that the claim stands on; no condition beyond those stated. -/
import Derived.Test.YteljpoagacbmoaaGreatDoorXVp
namespace Go.Lf
open Go.RowKit Go.OB

def yD:Arr 20 Int:=⟨[1,10,100,1000,10000,100000,1000000,10000000,100000000,1000000000,10000000000,100000000000,1000000000000,10000000000000,100000000000000,1000000000000000,10000000000000000,100000000000000000,1000000000000000000,10000000000000000000],rfl⟩
def zY:Arr 7 Str:=⟨[[],[60],[60,61],[61],[33,61],[62,61],[62]],rfl⟩
def Fdv (a:Int):Option Int:=
 gK (IntKind.i64.wrap (a*78913)) λb=>
 gB (aDm .i64 b 18) λc=>
 some c

def Fep (a:Bool):Option Int:=
 gQ a
 (some 1)
 (some 0)

def Fff (f:Int):Option Int:=
 gB (Ffr f) λh=>
 gB (Fdv h) λa=>
 gB (at' yD.l a) λb=>
 gK (decide (b<=f)) λc=>
 gB (Fep c) λd=>
 gK (IntKind.i64.wrap (a+d)) λe=>
 some e
end Go.Lf
