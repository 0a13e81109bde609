/- Laws that the claim stands on; no condition beyond those stated. -/
import Derived.Test.YtolnigkhnidkoacGreatDoorXVp
namespace Go.Lf
open Go.RowKit Go.OB

def zZ:Arr 20 Int:=⟨[1,10,100,1000,10000,100000,1000000,10000000,100000000,1000000000,10000000000,100000000000,1000000000000,10000000000000,100000000000000,1000000000000000,10000000000000000,100000000000000000,1000000000000000000,10000000000000000000],rfl⟩
def xG:Arr 4 Int:=⟨[583,1464,2631,3512],rfl⟩
def xA:Arr 7 Str:=⟨[[],[60],[60,61],[61],[33,61],[62,61],[62]],rfl⟩
def Fbu (a:Int):Option Int:=
 gG (IntKind.i64.wrap (a*78913)) λb=>
 gB (wL .i64 b 18) λc=>
 some c

def Fdx (a:Bool):Option Int:=
 gI a
 (some 1)
 (some 0)

def Fcq (f:Int):Option Int:=
 gB (Fd2 f) λg=>
 gB (Fbu g) λa=>
 gB (at' zZ.l a) λb=>
 gG (decide (b<=f)) λc=>
 gB (Fdx c) λd=>
 gG (IntKind.i64.wrap (a+d)) λe=>
 some e
end Go.Lf
