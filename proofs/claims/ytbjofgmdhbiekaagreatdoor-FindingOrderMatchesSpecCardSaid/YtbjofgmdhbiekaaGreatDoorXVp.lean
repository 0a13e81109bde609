/- Laws that the claim stands on; no condition beyond those stated. -/
import Derived.Lib.ItoaLen
import Derived.Shelf.Strings.OnBuilder
import Derived.Shelf.Strconv.AtoiErr
import Derived.Shelf.Strconv.Atoi
import Derived.Test.YtbjofgmdhbiekaaGreatDoorLfS
import Derived.Lib.SlicesCompact
namespace Go.Lf
open Go.RowKit Go.OB
def Fbn (l:List Int)(n base:Int):Option (List Int):=
 if base=10/\0<=n/\n<=18446744073709551615/\l.length+20<=140737488355328 then some (l++nums (Lib.decDigits n.toNat))else none
def Fdn (n:Int):Option Int:=if 0<=n/\n<=18446744073709551615 then some (Lib.bitLen n.toNat:Nat)else none
def Fgk (n:Int):Option Str:=if 0<=n/\n<100 then some (Lib.decDigits n.toNat)else none
def Fgu (s:Str):Option (Int×Bool):=if s.length<=18 then some (match Lib.atoi s with |some v=>(v,true)|none=>(0,false))else none
def Fj7 (_:Str)(_:Int):Option Int:=none
theorem aAb (a b:UInt8)(x y:Str):slt (a::x) (b::y)=(decide (a<b)||(a==b&&slt x y)):=by
 unfold slt;rw [Go.Op.bytesLess]
theorem aXl (x:Str):slt x []=false:=by cases x<;>rfl
theorem aSp (a b:UInt8):(a<b)↔a.toNat<b.toNat:=UInt8.lt_iff_toNat_lt
theorem u8eq (a b:UInt8):(a=b)↔a.toNat=b.toNat:=⟨λh=>by rw [h],λh=>UInt8.toNat_inj.1 h⟩
theorem uI: ∀x:Str,slt x x=false
 | []=>rfl
 |a::x=>by rw [aAb,uI x];simp
theorem wZ: ∀x y z:Str,slt x y=true->slt y z=true->slt x z=true
 |x,y,[],_,d=>by rw [aXl]at d;cases d
 |x,[],_::_,e,_=>by rw [aXl]at e;cases e
 | [],_::_,_::_,_,_=>rfl
 |a::x,b::y,c::z,e,d=>by
  rw [aAb]at e d⊢;simp only [Bool.or_eq_true,Bool.and_eq_true,decide_eq_true_eq,beq_iff_eq,aSp]at e d⊢;rcases e with e|⟨rfl,e⟩
  ·rcases d with d|⟨rfl,d⟩
   ·exact .inl (by omega)
   ·exact .inl e
  ·rcases d with d|⟨rfl,d⟩
   ·exact .inl d
   ·exact .inr ⟨rfl,wZ x y z e d⟩
theorem aFk: ∀x y:Str,slt x y=false->slt y x=false->x=y
 | [],[],_,_=>rfl
 | [],_::_,h,_=>by cases h
 |_::_,[],_,h=>by cases h
 |a::x,b::y,c,d=>by
  rw [aAb]at c d;simp only [Bool.or_eq_false_iff,Bool.and_eq_false_iff,decide_eq_false_iff_not,beq_eq_false_iff_ne,ne_eq,aSp]at c d;have e:a=b:=(u8eq a b).2 (by omega);subst e;rw [aFk x y (c.2.resolve_left (by simp)) (d.2.resolve_left (by simp))]
theorem aUe (x y z:Str)(a:slt x y=false)(b:slt y z=false):slt x z=false:=by
 cases c:slt x z with
 |false=>rfl
 |true=>
  cases d:slt z y with
  |true=>rw [wZ x z y c d]at a;cases a
  |false=>rw [aFk y z b d]at a;rw [a]at c;cases c
def srtS (l:List Str):List Str:=l.mergeSort λx y=> !slt y x
theorem srtS_len (l:List Str):(srtS l).length=l.length:=List.length_mergeSort _
def sS (l:List Str):List Str:=Lib.compact l
theorem cmpS1_len (l:List Str):(sS l).length<=l.length:=by
 unfold sS Lib.compact Lib.compactUpTo;rw [List.length_map];exact Nat.le_trans (List.length_filter_le _ _) (by simp)
def Fgh (l:List Str):Option (List Str):=if l.length<4611686018427387904 then some (srtS l)else none
def Fhj (l:List Str):Option (List Str):=if l.length<=9223372036854775807 then some (sS l)else none
end Go.Lf
