/- Laws that the claim stands on; no condition beyond those stated. -/
import Derived.Test.YthgccglopkgghaaGreatDoorXVp
namespace Go.Lf
open Go.RowKit Go.OB

def zD:Arr 20 Int:=⟨[1,10,100,1000,10000,100000,1000000,10000000,100000000,1000000000,10000000000,100000000000,1000000000000,10000000000000,100000000000000,1000000000000000,10000000000000000,100000000000000000,1000000000000000000,10000000000000000000],rfl⟩
def zU:Arr 7 Str:=⟨[[],[60],[60,61],[61],[33,61],[62,61],[62]],rfl⟩
def Fcm (a:Int):Option Int:=
 gU (IntKind.i64.wrap (a*78913)) λb=>
 gI (shr' .i64 b 18) λc=>
 some c

def Fds (a:Bool):Option Int:=
 gV a
 (some 1)
 (some 0)

def Fdr (f:Int):Option Int:=
 gI (Fdk f) λg=>
 gI (Fcm g) λa=>
 gI (at' zD.l a) λb=>
 gU (decide (b<=f)) λc=>
 gI (Fds c) λd=>
 gU (IntKind.i64.wrap (a+d)) λe=>
 some e
end Go.Lf
