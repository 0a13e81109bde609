/- Laws that the claim stands on; no condition beyond those stated. -/
import Derived.Test.YtbjofgmdhbiekaaGreatDoorLfR
namespace Go.Lf
open Go.RowKit Go.OB Go.ChangeShapes Go.WideShapes Go.ChangeAt
theorem aHp {k:IntKind}: ∀(l:List Int),l.flatMap (Fl.int k).f=l.map λz=>Value.int k z
 | []=>rfl
 |z::l=>by rw [List.flatMap_cons,aHp l];rfl
theorem aKs {H:Type}{enc:TypeId×Value->H}{P:Program}{w:World}{base:Nat}{u:Nat->Bool}{a:Bool}{t e:TypeId}{n:Nat}{k:IntKind}{g:Int->Prop} (C:P.underlying t=some (.array n e)) (i:P.cellsOf t=n) (j:P.cellsOf e=1)
  (D:bJ enc P w base u a e (Rp.int k) g):bJ enc P w base u a t (Rp.fl (Fl.arr n (Fl.int k))) (λA=> ∀x∈A.l,g x):=by
 intro _ cs x h;obtain⟨xs,m,rfl,rfl,E,_,F⟩:=DataW.trod_array C h;rw [i]at E;have o: ∀q,q<=n-> ∃l:List Int,cs.take q=l.map (λz=>Value.int k z)/\l.length=q/\ ∀z∈l,g z:=by
  intro q
  induction q with
  |zero=>intro _;exact⟨[],by simp,rfl,by simp⟩
  |succ q G=>
   intro _;obtain⟨l,c,p,r⟩:=G (by omega);have hi:q<cs.length:=by omega
   have B:=F q (by omega);rw [j,Nat.mul_one,gE (by omega:q<xs.length)]at B;obtain⟨z,d,s⟩:=D m _ _ B;have d:(cs.drop q).take 1=[.int k z]:=d;rw [List.drop_eq_getElem_cons hi,List.take_succ_cons,List.take_zero]at d;refine⟨l++[z],?_,by rw [List.length_append,p];rfl,λy b=>?_⟩
   ·rw [List.take_add_one,c,gE hi,List.map_append];simp only [Option.toList_some,List.map_cons,List.map_nil];rw [(List.cons.inj d).1]
   ·rcases mA.1 b with b|b
    ·exact r y b
    ·rw [mS.1 b];exact s
 obtain⟨l,c,p,r⟩:=o n (Nat.le_refl _);rw [List.take_of_length_le (by omega)]at c;refine⟨⟨l,p⟩,?_,r⟩;show cs=l.flatMap (Fl.int k).f;rw [c,aHp]
end Go.Lf
