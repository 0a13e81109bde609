/- Laws that the claim stands on; no condition beyond those stated. -/
import Derived.Lib.ItoaLen
import Derived.Shelf.Strings.OnBuilder
import Derived.Shelf.Strconv.AtoiErr
import Derived.Shelf.Strconv.Atoi
import Derived.Test.YtbjofgmdhbiekaaGreatDoorLfS
import Derived.Lib.SlicesCompact
namespace Go.Lf
open Go.RowKit Go.OB
def Fbx (l:List Int)(n base:Int):Option (List Int):=
 if base=10/\0<=n/\n<=18446744073709551615/\l.length+20<=140737488355328 then some (l++nums (Lib.decDigits n.toNat))else none
def Fb9 (n:Int):Option Int:=if 0<=n/\n<=18446744073709551615 then some (Lib.bitLen n.toNat:Nat)else none
def Ffz (n:Int):Option Str:=if 0<=n/\n<100 then some (Lib.decDigits n.toNat)else none
def Fem (s:Str):Option (Int×Bool):=if s.length<=18 then some (match Lib.atoi s with |some v=>(v,true)|none=>(0,false))else none
def Fjt (_:Str)(_:Int):Option Int:=none
theorem aEk (a b:UInt8)(x y:Str):slt (a::x) (b::y)=(decide (a<b)||(a==b&&slt x y)):=by
 unfold slt;rw [Go.Op.bytesLess]
theorem bAu (x:Str):slt x []=false:=by cases x<;>rfl
theorem u8lt (a b:UInt8):(a<b)↔a.toNat<b.toNat:=UInt8.lt_iff_toNat_lt
theorem u8eq (a b:UInt8):(a=b)↔a.toNat=b.toNat:=⟨λh=>by rw [h],λh=>UInt8.toNat_inj.1 h⟩
theorem aKq: ∀x:Str,slt x x=false
 | []=>rfl
 |a::x=>by rw [aEk,aKq x];simp
theorem aFt: ∀x y z:Str,slt x y=true->slt y z=true->slt x z=true
 |x,y,[],_,d=>by rw [bAu]at d;cases d
 |x,[],_::_,h1,_=>by rw [bAu]at h1;cases h1
 | [],_::_,_::_,_,_=>rfl
 |a::x,b::y,c::z,h1,d=>by
  rw [aEk]at h1 d⊢;simp only [Bool.or_eq_true,Bool.and_eq_true,decide_eq_true_eq,beq_iff_eq,u8lt]at h1 d⊢;rcases h1 with h1|⟨rfl,h1⟩
  ·rcases d with d|⟨rfl,d⟩
   ·exact .inl (by omega)
   ·exact .inl h1
  ·rcases d with d|⟨rfl,d⟩
   ·exact .inl d
   ·exact .inr ⟨rfl,aFt x y z h1 d⟩
theorem aOp: ∀x y:Str,slt x y=false->slt y x=false->x=y
 | [],[],_,_=>rfl
 | [],_::_,h,_=>by cases h
 |_::_,[],_,h=>by cases h
 |a::x,b::y,h1,c=>by
  rw [aEk]at h1 c;simp only [Bool.or_eq_false_iff,Bool.and_eq_false_iff,decide_eq_false_iff_not,beq_eq_false_iff_ne,ne_eq,u8lt]at h1 c;have e:a=b:=(u8eq a b).2 (by omega);subst e;rw [aOp x y (h1.2.resolve_left (by simp)) (c.2.resolve_left (by simp))]
theorem aVi (x y z:Str)(h1:slt x y=false)(a:slt y z=false):slt x z=false:=by
 cases c:slt x z with
 |false=>rfl
 |true=>
  cases d:slt z y with
  |true=>rw [aFt x z y c d]at h1;cases h1
  |false=>rw [aOp y z a d]at h1;rw [h1]at c;cases c
def srtS (l:List Str):List Str:=l.mergeSort λx y=> !slt y x
theorem srtS_len (l:List Str):(srtS l).length=l.length:=List.length_mergeSort _
def sO (l:List Str):List Str:=Lib.compact l
theorem cmpS1_len (l:List Str):(sO l).length<=l.length:=by
 unfold sO Lib.compact Lib.compactUpTo;rw [List.length_map];exact Nat.le_trans (List.length_filter_le _ _) (by simp)
def Fhb (l:List Str):Option (List Str):=if l.length<4611686018427387904 then some (srtS l)else none
def Fe5 (l:List Str):Option (List Str):=if l.length<=9223372036854775807 then some (sO l)else none
end Go.Lf
