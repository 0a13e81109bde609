/- Laws that the claim stands on; no condition beyond those stated. -/
import Derived.Test.YtbjofgmdhbiekaaGreatDoorXVp
namespace Go.Lf
open Go.RowKit Go.OB

def yA:Arr 20 Int:=⟨[1,10,100,1000,10000,100000,1000000,10000000,100000000,1000000000,10000000000,100000000000,1000000000000,10000000000000,100000000000000,1000000000000000,10000000000000000,100000000000000000,1000000000000000000,10000000000000000000],rfl⟩
def yT:Arr 4 Int:=⟨[583,1464,2631,3512],rfl⟩
def yL:Arr 7 Str:=⟨[[],[60],[60,61],[61],[33,61],[62,61],[62]],rfl⟩
def Fbh (a:Int):Option Int:=
 gG (IntKind.i64.wrap (a*78913)) λb=>
 gB (aAe .i64 b 18) λc=>
 some c

def Fc5 (a:Bool):Option Int:=
 gJ a
 (some 1)
 (some 0)

def Fdl (f:Int):Option Int:=
 gB (Fb9 f) λg=>
 gB (Fbh g) λa=>
 gB (at' yA.l a) λb=>
 gG (decide (b<=f)) λc=>
 gB (Fc5 c) λd=>
 gG (IntKind.i64.wrap (a+d)) λe=>
 some e
end Go.Lf
