/- Laws that the claim stands on; no condition beyond those stated. -/
import Derived.Test.YtbjofgmdhbiekaaGreatDoorXVp
namespace Go.Lf
open Go.RowKit Go.OB

def yD:Arr 20 Int:=⟨[1,10,100,1000,10000,100000,1000000,10000000,100000000,1000000000,10000000000,100000000000,1000000000000,10000000000000,100000000000000,1000000000000000,10000000000000000,100000000000000000,1000000000000000000,10000000000000000000],rfl⟩
def xJ:Arr 4 Int:=⟨[583,1464,2631,3512],rfl⟩
def yU:Arr 7 Str:=⟨[[],[60],[60,61],[61],[33,61],[62,61],[62]],rfl⟩
def Fbx (a:Int):Option Int:=
 gG (IntKind.i64.wrap (a*78913)) λb=>
 gB (qH .i64 b 18) λc=>
 some c

def Fdh (a:Bool):Option Int:=
 gJ a
 (some 1)
 (some 0)

def Fdc (f:Int):Option Int:=
 gB (Fdn f) λg=>
 gB (Fbx g) λa=>
 gB (at' yD.l a) λb=>
 gG (decide (b<=f)) λc=>
 gB (Fdh c) λd=>
 gG (IntKind.i64.wrap (a+d)) λe=>
 some e
end Go.Lf
