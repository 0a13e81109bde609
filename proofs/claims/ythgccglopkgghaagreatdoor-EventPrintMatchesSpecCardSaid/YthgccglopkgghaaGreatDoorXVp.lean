/- Laws that the claim stands on; no condition beyond those stated. -/
import Derived.Lib.ItoaLen
import Derived.Shelf.Strings.OnBuilder
import Derived.Shelf.Strconv.AtoiAll
import Derived.Lib.Bytealg
import Derived.Test.YthgccglopkgghaaGreatDoorLfS
import Derived.Lib.SlicesCompact
namespace Go.Lf
open Go.RowKit Go.OB
def Fcg (l:List Int)(n a:Int):Option (List Int):=
 if a=10/\0<=n/\n<=18446744073709551615/\l.length+20<=140737488355328 then some (l++nums (Lib.decDigits n.toNat))else none
def Fdk (n:Int):Option Int:=if 0<=n/\n<=18446744073709551615 then some (Lib.bitLen n.toNat:Nat)else none
def Ffv (a:List Int):Option (List Int):=some a
def Fev (a:List Int):Option Str:=if a=nums (str' a)then some (str' a)else none
def Fe5 (l:List Str)(a:Str):Option Str:=
 if l.length<=140737488355328/\(Lib.join l a).length<=140737488355328 then some (Lib.join l a)else none
def Fdx (n b:Int):Option Str:=if b=10/\ -9223372036854775808<=n/\n<=9223372036854775807 then some (Lib.itoa n)else none
def Fc1 (s:Str):Option (Int×Bool):=if s.length<=1000000 then some (match Lib.atoiAll s with | .ok v=>(v,true)| .range=>(Lib.atoiSat s,false)|_=>(0,false))else none
def Fez (s:Str)(c:Int):Option Int:=some (Lib.indexByte s c.toNat.toUInt8)
end Go.Lf
