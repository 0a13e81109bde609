/- Laws that the claim stands on; no condition beyond those stated. -/
import Derived.Test.YtbjofgmdhbiekaaGreatDoorLfR
namespace Go.Lf
open Go.RowKit Go.OB Go.ChangeShapes Go.WideShapes Go.ChangeAt
theorem aJj {k:IntKind}: ∀(l:List Int),l.flatMap (Fl.int k).f=l.map λz=>Value.int k z
 | []=>rfl
 |z::l=>by rw [List.flatMap_cons,aJj l];rfl
theorem aNx {H:Type}{enc:TypeId×Value->H}{P:Program}{w:World}{base:Nat}{s:Nat->Bool}{a:Bool}{t e:TypeId}{n:Nat}{k:IntKind}{d:Int->Prop} (B:P.underlying t=some (.array n e)) (g:P.cellsOf t=n) (i:P.cellsOf e=1)
  (C:aN enc P w base s a e (Rp.int k) d):aN enc P w base s a t (Rp.fl (Fl.arr n (Fl.int k))) (λA=> ∀x∈A.l,d x):=by
 intro _ cs x h;obtain⟨xs,m,rfl,rfl,D,_,E⟩:=DataW.trod_array B h;rw [g]at D;have j: ∀q,q<=n-> ∃l:List Int,cs.take q=l.map (λz=>Value.int k z)/\l.length=q/\ ∀z∈l,d z:=by
  intro q
  induction q with
  |zero=>intro _;exact⟨[],by simp,rfl,by simp⟩
  |succ q F=>
   intro _;obtain⟨l,h1,o,p⟩:=F (by omega);have hi:q<cs.length:=by omega
   have v:=E q (by omega);rw [i,Nat.mul_one,gE (by omega:q<xs.length)]at v;obtain⟨z,c,r⟩:=C m _ _ v;have c:(cs.drop q).take 1=[.int k z]:=c;rw [List.drop_eq_getElem_cons hi,List.take_succ_cons,List.take_zero]at c;refine⟨l++[z],?_,by rw [List.length_append,o];rfl,λy b=>?_⟩
   ·rw [List.take_add_one,h1,gE hi,List.map_append];simp only [Option.toList_some,List.map_cons,List.map_nil];rw [(List.cons.inj c).1]
   ·rcases mA.1 b with b|b
    ·exact p y b
    ·rw [mS.1 b];exact r
 obtain⟨l,h1,o,p⟩:=j n (Nat.le_refl _);rw [List.take_of_length_le (by omega)]at h1;refine⟨⟨l,o⟩,?_,p⟩;show cs=l.flatMap (Fl.int k).f;rw [h1,aJj]
end Go.Lf
