/- Walks: what each function computes, for every argument; no condition but those that stand in the statements. -/
import Derived.Test.YtgmikmoapfmedaaGreatDoorLfQ
import Derived.Lib.ItoaLen
import Derived.Test.YtgmikmoapfmedaaGreatDoorLfR
import Derived.Shelf.Strings.OnBuilder
import Derived.Shelf.Strconv.AtoiErr
import Derived.Shelf.Strconv.Atoi
import Derived.Test.YtgmikmoapfmedaaGreatDoorLfS
import Derived.Lib.SlicesCompact
namespace Go.Lf
open Go.RowKit Go.OB
def Fc4 (n:Int):Option Str:=if 0≤n∧n<100 then some (Lib.decDigits n.toNat) else none
def Fc0 (s:Str):Option (Int×Bool):=if s.length≤18 then some (match Lib.atoi s with | some v=>(v,true) | none=>(0,false)) else none
end Go.Lf
namespace Go.Lf
theorem qE (a b:UInt8)(x y:Str):slt (a :: x) (b :: y)=(decide (a<b) || (a==b && slt x y)):=by
  unfold slt; rw [Go.Op.bytesLess]
theorem aDp (x:Str):slt x []=false:=by cases x<;>rfl
theorem u8lt (a b:UInt8):(a<b)↔a.toNat<b.toNat:=UInt8.lt_iff_toNat_lt
theorem u8eq (a b:UInt8):(a=b)↔a.toNat=b.toNat:=⟨fun h=>by rw [h],fun h=>UInt8.toNat_inj.1 h⟩
theorem vG: ∀x:Str,slt x x=false
  | []=>rfl
  | a :: x=>by rw [qE,vG x]; simp
theorem qW : ∀ x y z : Str, slt x y = true → slt y z = true → slt x z = true
  | x, y, [], _, h2 => by rw [aDp] at h2; cases h2
  | x, [], _ :: _, h1, _ => by rw [aDp] at h1; cases h1
  | [], _ :: _, _ :: _, _, _ => rfl
  | a :: x, b :: y, c :: z, h1, h2 => by
    rw [qE] at h1 h2 ⊢
    simp only [Bool.or_eq_true, Bool.and_eq_true, decide_eq_true_eq, beq_iff_eq, u8lt] at h1 h2 ⊢
    rcases h1 with h1 | ⟨rfl, h1⟩
    · rcases h2 with h2 | ⟨rfl, h2⟩
      · exact .inl (by omega)
      · exact .inl h1
    · rcases h2 with h2 | ⟨rfl, h2⟩
      · exact .inl h2
      · exact .inr ⟨rfl, qW x y z h1 h2⟩
theorem aAb: ∀x y:Str,slt x y=false→slt y x=false→x=y
  | [],[],_,_=>rfl
  | [],_ :: _,h,_=>by cases h
  | _ :: _,[],_,h=>by cases h
  | a :: x,b :: y,h1,h2=>by
    rw [qE] at h1 h2
    simp only [Bool.or_eq_false_iff,Bool.and_eq_false_iff,decide_eq_false_iff_not,beq_eq_false_iff_ne,ne_eq,u8lt] at h1 h2
    have e:a=b:=(u8eq a b).2 (by omega)
    subst e
    rw [aAb x y (h1.2.resolve_left (by simp)) (h2.2.resolve_left (by simp))]
theorem aDk (x y z:Str)(h1:slt x y=false)(h2:slt y z=false):slt x z=false:=by
  cases c:slt x z with
  | false=>rfl
  | true=>
    cases d:slt z y with
    | true=>rw [qW x z y c d] at h1; cases h1
    | false=>rw [aAb y z h2 d] at h1; rw [h1] at c; cases c
def srtS (l:List Str):List Str:=l.mergeSort fun x y=> !slt y x
theorem srtS_len (l:List Str):(srtS l).length=l.length:=List.length_mergeSort _
def kG (l:List Str):List Str:=Lib.compact l
theorem cmpS1_len (l:List Str):(kG l).length≤l.length:=by
  unfold kG Lib.compact Lib.compactUpTo
  rw [List.length_map]
  exact Nat.le_trans (List.length_filter_le _ _) (by simp)
end Go.Lf
namespace Go.Lf
open Go.RowKit Go.OB
def Fds (l:List Str):Option (List Str):=if l.length<4611686018427387904 then some (srtS l) else none
def Fcz (l:List Str):Option (List Str):=if l.length≤9223372036854775807 then some (kG l) else none
end Go.Lf
