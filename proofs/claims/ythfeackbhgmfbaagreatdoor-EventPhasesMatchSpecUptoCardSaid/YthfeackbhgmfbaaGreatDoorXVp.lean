/- Laws that the claim stands on; no condition beyond those stated. -/
import Derived.Lib.ItoaLen
import Derived.Shelf.Strings.OnBuilder
import Derived.Shelf.Strconv.AtoiErr
import Derived.Shelf.Strconv.Atoi
import Derived.Test.YthfeackbhgmfbaaGreatDoorLfS
import Derived.Lib.SlicesCompact
namespace Go.Lf
open Go.RowKit Go.OB
def Fde (l:List Int)(n base:Int):Option (List Int):=
 if base=10/\0<=n/\n<=18446744073709551615/\l.length+20<=140737488355328 then some (l++nums (Lib.decDigits n.toNat))else none
def Fgv (n:Int):Option Int:=if 0<=n/\n<=18446744073709551615 then some (Lib.bitLen n.toNat:Nat)else none
def Fjx (a:List Int):Option (List Int):=some a
def Fh6 (a:List Int):Option Str:=if a=nums (str' a)then some (str' a)else none
def Fi3 (l:List Str)(a:Str):Option Str:=
 if l.length<=140737488355328/\(Lib.join l a).length<=140737488355328 then some (Lib.join l a)else none
def Ff4 (n:Int):Option Str:=if 0<=n/\n<100 then some (Lib.decDigits n.toNat)else none
def Fi8 (s:Str):Option (Int×Bool):=if s.length<=18 then some (match Lib.atoi s with |some v=>(v,true)|none=>(0,false))else none
theorem aFy (a b:UInt8)(x y:Str):slt (a::x) (b::y)=(decide (a<b)||(a==b&&slt x y)):=by
 unfold slt;rw [Go.Op.bytesLess]
theorem bBy (x:Str):slt x []=false:=by cases x<;>rfl
theorem u8lt (a b:UInt8):(a<b)↔a.toNat<b.toNat:=UInt8.lt_iff_toNat_lt
theorem u8eq (a b:UInt8):(a=b)↔a.toNat=b.toNat:=⟨λh=>by rw [h],λh=>UInt8.toNat_inj.1 h⟩
theorem vF: ∀x:Str,slt x x=false
 | []=>rfl
 |a::x=>by rw [aFy,vF x];simp
theorem rX: ∀x y z:Str,slt x y=true->slt y z=true->slt x z=true
 |x,y,[],_,d=>by rw [bBy]at d;cases d
 |x,[],_::_,e,_=>by rw [bBy]at e;cases e
 | [],_::_,_::_,_,_=>rfl
 |a::x,b::y,c::z,e,d=>by
  rw [aFy]at e d⊢;simp only [Bool.or_eq_true,Bool.and_eq_true,decide_eq_true_eq,beq_iff_eq,u8lt]at e d⊢;rcases e with e|⟨rfl,e⟩
  ·rcases d with d|⟨rfl,d⟩
   ·exact .inl (by omega)
   ·exact .inl e
  ·rcases d with d|⟨rfl,d⟩
   ·exact .inl d
   ·exact .inr ⟨rfl,rX x y z e d⟩
theorem aFl: ∀x y:Str,slt x y=false->slt y x=false->x=y
 | [],[],_,_=>rfl
 | [],_::_,h,_=>by cases h
 |_::_,[],_,h=>by cases h
 |a::x,b::y,c,d=>by
  rw [aFy]at c d;simp only [Bool.or_eq_false_iff,Bool.and_eq_false_iff,decide_eq_false_iff_not,beq_eq_false_iff_ne,ne_eq,u8lt]at c d;have e:a=b:=(u8eq a b).2 (by omega);subst e;rw [aFl x y (c.2.resolve_left (by simp)) (d.2.resolve_left (by simp))]
theorem aPg {x y:Str}(h:slt x y=true):slt y x=false:=by
 cases c:slt y x with
 |false=>rfl
 |true=>have:=rX x y x h c;rw [vF]at this;cases this
theorem aLk (x y z:Str)(a:slt x y=false)(b:slt y z=false):slt x z=false:=by
 cases c:slt x z with
 |false=>rfl
 |true=>
  cases d:slt z y with
  |true=>rw [rX x z y c d]at a;cases a
  |false=>rw [aFl y z b d]at a;rw [a]at c;cases c
def aDh (l:List Str):List Str:=l.mergeSort λx y=> !slt y x
theorem aSr (l:List Str):(aDh l).length=l.length:=List.length_mergeSort _
def qM (l:List Str):List Str:=Lib.compact l
theorem cmpS1_len (l:List Str):(qM l).length<=l.length:=by
 unfold qM Lib.compact Lib.compactUpTo;rw [List.length_map];exact Nat.le_trans (List.length_filter_le _ _) (by simp)
def Ff2 (l:List Str):Option (List Str):=if l.length<4611686018427387904 then some (aDh l)else none
def Ffb (l:List Str):Option (List Str):=if l.length<=9223372036854775807 then some (qM l)else none
end Go.Lf
