/- Laws that the claim stands on; no condition beyond those stated. -/
import Derived.Test.YtbjofgmdhbiekaaGreatDoorUTy
import Derived.Test.YtbjofgmdhbiekaaGreatDoorXVw0
import Derived.Test.YtbjofgmdhbiekaaGreatDoorLfT
namespace Go.Proofs.YtbjofgmdhbiekaaGreatDoor.E
open Go.RowKit Go.OB Go.Lf Go.Sort Go.Shelf Go.Proofs
def encW (x:gV):List Value:=[.int .i64 x.Number,.int .i64 x.Word]
def cfW (x y:gV):Int:=orPair (Lib.compareInt x.Number y.Number) (Lib.compareInt x.Word y.Word)
theorem rowsW: ∀(F:Nat->Prop) (w:World) (cs:List Value) (l:List gV),rows aV F w cs l↔cs=l.flatMap encW
 |_,_,_,[]=>Iff.rfl
 |F,w,cs,x::l=>by
  constructor
  ·rintro⟨c,d,rfl,h1,a⟩;rw [aAg h1,(rowsW F w d l).1 a,List.flatMap_cons];rfl
  ·rintro rfl;exact⟨_,l.flatMap encW,by rw [List.flatMap_cons];rfl,aJk,(rowsW F w _ l).2 rfl⟩
theorem ltW (x y:gV):ltOf cfW x y=ltP gV.Number gV.Word x y:=by
 unfold ltOf cfW orPair Lib.compareInt ltP;by_cases h1:x.Number<y.Number;simp [h1];by_cases d:x.Number>y.Number;have a: ¬x.Number=y.Number:=by omega
 simp [h1,d,a];have a:x.Number=y.Number:=by omega
 by_cases b:x.Word<y.Word;simp [a,b];by_cases c:x.Word>y.Word;simp [a,b,c];simp [a,b,c]
theorem eqW (x y:gV)(h1:x.Number=y.Number)(a:x.Word=y.Word):x=y:=by
 cases x;cases y;simp only at h1 a;rw [h1,a]
theorem swoW:SWO (ltOf cfW) where
 irrefl x:=by rw [ltW,aKx];omega
 trans x y z h1 h2:=by rw [ltW,ltP_t]at *;omega
 ntrans x y z h1 h2:=by rw [ltW,aKx]at *;omega
theorem Fk0 {l m:List gV}(h:l.Perm m):Faf gV.Number gV.Word l=Faf gV.Number gV.Word m:=Fld eqW h
theorem Flr (b:List gV) (v0:Value) (r:List gV) (a:Faf gV.Number gV.Word b=some r) (O S:List Nat) (w:World) (H:Hd O w w S [.own aV v0 98 b]):
  Calls Tryz.prog 61 ([v0,.func (.func 62) #[] #[]]:List Value).toArray w λe w'=>e= .returned (.tuple #[])/\Hd O w w' S [.own aV v0 98 r]:=by
 unfold Faf at a;split at a
 ·rename_i c;have f:=oI a;subst f
  haveI:Inhabited gV:=⟨⟨0,0⟩⟩
  have q:=sortK_own (k:=2) (enc:=encW) (λ_=>rfl) (λx _ d=>by simp [encW]at d;rcases d with rfl|rfl<;>rfl) rowsW rfl aSg Tryz.isAgg98 Tryz.sizeOf98 cfW swoW (λx y h1 g=>by
   rw [ltW,aKx]at h1 g;exact eqW x y (by omega) (by omega)) 62 (enters_of Tryz.func62 (by kernel_rfl) rfl) (λx y W=>cmpWhere x.Number x.Word y.Number y.Word W) H (i:=0) rfl c
  have e:(λx y:gV=> !ltOf cfW y x)=λx y=> !ltP gV.Number gV.Word y x:=by funext x y;rw [ltW]
  rw [e]at q;exact q
 ·cases a
end Go.Proofs.YtbjofgmdhbiekaaGreatDoor.E
