/- Laws that the claim stands on; no condition beyond those stated. -/
import Derived.Test.YtbjofgmdhbiekaaGreatDoorLfT
import Derived.Test.YtbjofgmdhbiekaaGreatDoorXVr
namespace Go.Proofs.YtbjofgmdhbiekaaGreatDoor.E
open Go.RowKit Go.OB Go.Lf Go.Sort Go.Shelf Go.Proofs
theorem cfS_eq: ∀x y:Str,cfS x y=if slt x y=true then-1 else if slt y x=true then 1 else 0
 | [],[]=>rfl
 | [],_::_=>rfl
 |_::_,[]=>rfl
 |a::x,b::y=>by
  have g:=cfS_eq x y;unfold cfS at g⊢;rw [aAb,aAb,Lib.compareBytes,g]
  by_cases c:a<b
  ·have d: ¬b<a:=λh=>by have:=(aSp a b).1 c;have:=(aSp b a).1 h;omega
   have f: ¬b=a:=λe=>d (e▸c)
   simp [c]
  ·by_cases d:b<a
   ·have f: ¬a=b:=λe=>c (e▸d)
    simp [c,d,f]
   ·have f:a=b:=(u8eq a b).2 (by have:=mt (aSp a b).2 c;have:=mt (aSp b a).2 d;omega);subst f;simp [c]
theorem Fhlw (a b:Str)(r:Int)(c:Fhl a b=some r)(O S:List Nat)(w:World)(H:Hd O w w S []):
    Calls Tryz.prog 45 ([.string (bs a),.string (bs b)]:List Value).toArray w λe w'=>e= .returned (.int .i64 r)/\Hd O w w' S []:=by
 have d:=oI c;subst d;rw [<-cfS_eq];exact(cmpS aNc w a b).mono λe w' ⟨f,g⟩=>⟨f,by subst g;exact H⟩
end Go.Proofs.YtbjofgmdhbiekaaGreatDoor.E
