/- Laws that the claim stands on; no condition beyond those stated. -/
import Derived.Test.YtibkjjklfhfipacGreatDoorXVp
namespace Go.Lf
open Go.RowKit Go.OB

def zW:Arr 20 Int:=⟨[1,10,100,1000,10000,100000,1000000,10000000,100000000,1000000000,10000000000,100000000000,1000000000000,10000000000000,100000000000000,1000000000000000,10000000000000000,100000000000000000,1000000000000000000,10000000000000000000],rfl⟩
def Fcj (a:Int):Option Int:=
 gI (IntKind.i64.wrap (a*78913)) λb=>
 gB (aHj .i64 b 18) λc=>
 some c

def Fei (a:Bool):Option Int:=
 gQ a
 (some 1)
 (some 0)

def Fee (f:Int):Option Int:=
 gB (Ff1 f) λh=>
 gB (Fcj h) λa=>
 gB (at' zW.l a) λb=>
 gI (decide (b<=f)) λc=>
 gB (Fei c) λd=>
 gI (IntKind.i64.wrap (a+d)) λe=>
 some e
end Go.Lf
