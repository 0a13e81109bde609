/- Laws that the claim stands on; no condition beyond those stated. -/
import Derived.Test.YtbjofgmdhbiekaaGreatDoorLfR
namespace Go.Lf
open Go.RowKit Go.OB Go.ChangeShapes Go.WideShapes Go.ChangeAt
theorem aLd {k:IntKind}: ∀(l:List Int),l.flatMap (Fl.int k).f=l.map λz=>Value.int k z
 | []=>rfl
 |z::l=>by rw [List.flatMap_cons,aLd l];rfl
theorem aMn {H:Type}{enc:TypeId×Value->H}{P:Program}{w:World}{base:Nat}{v:Nat->Bool}{a:Bool}{t e:TypeId}{n:Nat}{k:IntKind}{g:Int->Prop} (D:P.underlying t=some (.array n e)) (i:P.cellsOf t=n) (j:P.cellsOf e=1)
  (E:bV enc P w base v a e (Rp.int k) g):bV enc P w base v a t (Rp.fl (Fl.arr n (Fl.int k))) (λA=> ∀x∈A.l,g x):=by
 intro _ cs x h;obtain⟨xs,m,rfl,rfl,F,_,G⟩:=DataW.trod_array D h;rw [i]at F;have o: ∀q,q<=n-> ∃l:List Int,cs.take q=l.map (λz=>Value.int k z)/\l.length=q/\ ∀z∈l,g z:=by
  intro q
  induction q with
  |zero=>intro _;exact⟨[],by simp,rfl,by simp⟩
  |succ q I=>
   intro _;obtain⟨l,c,p,s⟩:=I (by omega);have hi:q<cs.length:=by omega
   have C:=G q (by omega);rw [j,Nat.mul_one,gE (by omega:q<xs.length)]at C;obtain⟨z,d,u⟩:=E m _ _ C;have d:(cs.drop q).take 1=[.int k z]:=d;rw [List.drop_eq_getElem_cons hi,List.take_succ_cons,List.take_zero]at d;refine⟨l++[z],?_,by rw [List.length_append,p];rfl,λy b=>?_⟩
   ·rw [List.take_add_one,c,gE hi,List.map_append];simp only [Option.toList_some,List.map_cons,List.map_nil];rw [(List.cons.inj d).1]
   ·rcases mA.1 b with b|b
    ·exact s y b
    ·rw [mS.1 b];exact u
 obtain⟨l,c,p,s⟩:=o n (Nat.le_refl _);rw [List.take_of_length_le (by omega)]at c;refine⟨⟨l,p⟩,?_,s⟩;show cs=l.flatMap (Fl.int k).f;rw [c,aLd]
end Go.Lf
