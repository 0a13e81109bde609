/- Laws that the claim stands on; no condition beyond those stated. -/
import Derived.Test.YtbjofgmdhbiekaaGreatDoorOpxB
import Derived.Test.YtbjofgmdhbiekaaGreatDoorOPb
namespace Go.Lf
open Go.RowKit Go.OB Go.ChangeShapes Go.WideShapes Go.ChangeAt
section
variable {H:Type}{enc:TypeId×Value->H}{P:Program}{w:World}{base:Nat}{sp:Nat->Bool}{held:Bool}{B:DataW H->Nat}
theorem aFp {t:TypeId}{c:Type}{r:Rp c}{d:c->Prop}(e:aQm B)(h:aN enc P w base sp held t r d):aFu enc P w base sp held B t r d (λ_=>1):=by
 intro b cs x f;obtain⟨a,h1,g⟩:=h b cs x f;exact⟨a,h1,g,e.pos _⟩
theorem aZw {a:Type}: ∀l:List a,(l.map λ_=>1).sum=l.length
 | []=>rfl
 |x::l=>by rw [List.map_cons,List.sum_cons,aZw l,List.length_cons];omega
end
end Go.Lf
