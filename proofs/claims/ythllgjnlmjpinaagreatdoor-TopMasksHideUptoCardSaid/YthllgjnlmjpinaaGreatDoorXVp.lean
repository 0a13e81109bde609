/- Walks: what each function computes, for every argument; no condition but those that stand in the statements. -/
import Derived.Test.YthllgjnlmjpinaaGreatDoorLfQ
import Derived.Lib.ItoaLen
import Derived.Test.YthllgjnlmjpinaaGreatDoorLfR
import Derived.Shelf.Strings.OnBuilder
import Derived.Shelf.Strconv.AtoiErr
import Derived.Shelf.Strconv.Atoi
import Derived.Test.YthllgjnlmjpinaaGreatDoorLfS
import Derived.Lib.SlicesCompact
namespace Go.Lf
open Go.RowKit Go.OB
def Fcu (l:List Int)(n base:Int):Option (List Int):=
  if base=10∧0≤n∧n≤18446744073709551615∧l.length+20≤140737488355328 then some (l++nums (Lib.decDigits n.toNat)) else none
def Ffl (n:Int):Option Int:=if 0≤n∧n≤18446744073709551615 then some (Lib.bitLen n.toNat:Nat) else none
end Go.Lf
namespace Go.Lf
open Go.RowKit Go.OB
def Fdw (n base:Int):Option Str:=
  if base=10∧0≤n∧n≤9223372036854775807 then some (Lib.decDigits n.toNat) else none
end Go.Lf
namespace Go.Lf
theorem aCu (a b:UInt8)(x y:Str):slt (a :: x) (b :: y)=(decide (a<b) || (a==b && slt x y)):=by
 unfold slt; rw [Go.Op.bytesLess]
theorem aTs (x:Str):slt x []=false:=by cases x<;>rfl
theorem u8lt (a b:UInt8):(a<b)↔a.toNat<b.toNat:=UInt8.lt_iff_toNat_lt
theorem u8eq (a b:UInt8):(a=b)↔a.toNat=b.toNat:=⟨fun h=>by rw [h],fun h=>UInt8.toNat_inj.1 h⟩
theorem nR: ∀x:Str,slt x x=false
  | []=>rfl
  | a :: x=>by rw [aCu,nR x]; simp
theorem nN : ∀ x y z : Str, slt x y = true → slt y z = true → slt x z = true
  | x, y, [], _, h2 => by rw [aTs] at h2; cases h2
  | x, [], _ :: _, h1, _ => by rw [aTs] at h1; cases h1
  | [], _ :: _, _ :: _, _, _ => rfl
  | a :: x, b :: y, c :: z, h1, h2 => by
    rw [aCu] at h1 h2 ⊢
    simp only [Bool.or_eq_true, Bool.and_eq_true, decide_eq_true_eq, beq_iff_eq, u8lt] at h1 h2 ⊢
    rcases h1 with h1 | ⟨rfl, h1⟩
    · rcases h2 with h2 | ⟨rfl, h2⟩
      · exact .inl (by omega)
      · exact .inl h1
    · rcases h2 with h2 | ⟨rfl, h2⟩
      · exact .inl h2
      · exact .inr ⟨rfl, nN x y z h1 h2⟩
theorem aDj: ∀x y:Str,slt x y=false→slt y x=false→x=y
  | [],[],_,_=>rfl
  | [],_ :: _,h,_=>by cases h
  | _ :: _,[],_,h=>by cases h
  | a :: x,b :: y,h1,h2=>by
    rw [aCu] at h1 h2
    simp only [Bool.or_eq_false_iff,Bool.and_eq_false_iff,decide_eq_false_iff_not,beq_eq_false_iff_ne,ne_eq,u8lt] at h1 h2
    have e:a=b:=(u8eq a b).2 (by omega)
    subst e
    rw [aDj x y (h1.2.resolve_left (by simp)) (h2.2.resolve_left (by simp))]
theorem aJl {x y:Str}(h:slt x y=true):slt y x=false:=by
  cases c:slt y x with
  | false=>rfl
  | true=>have:=nN x y x h c; rw [nR] at this; cases this
theorem aHs (x y z:Str)(h1:slt x y=false)(h2:slt y z=false):slt x z=false:=by
  cases c:slt x z with
  | false=>rfl
  | true=>
    cases d:slt z y with
    | true=>rw [nN x z y c d] at h1; cases h1
    | false=>rw [aDj y z h2 d] at h1; rw [h1] at c; cases c
def tH (l:List Str):List Str:=l.mergeSort fun x y=> !slt y x
theorem aPz (l:List Str):(tH l).length=l.length:=List.length_mergeSort _
def kL (l:List Str):List Str:=Lib.compact l
theorem cmpS1_len (l:List Str):(kL l).length≤l.length:=by
 unfold kL Lib.compact Lib.compactUpTo;rw [List.length_map];exact Nat.le_trans (List.length_filter_le _ _) (by simp)
end Go.Lf
namespace Go.Lf
open Go.RowKit Go.OB
def Feg (l:List Str):Option (List Str):=if l.length<4611686018427387904 then some (tH l) else none
def Ffn (l:List Str):Option (List Str):=if l.length≤9223372036854775807 then some (kL l) else none
end Go.Lf
