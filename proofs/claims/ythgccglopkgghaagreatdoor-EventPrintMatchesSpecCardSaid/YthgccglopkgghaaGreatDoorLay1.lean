/- Laws that the claim stands on; no condition beyond those stated. -/
import Derived.Test.YthgccglopkgghaaGreatDoorLfR
import Derived.LaidLaws
import Derived.LaidSub
namespace Go.Lf
open Go.RowKit Go.OB
def aAl {H:Type}(a:List Str):DataW H:= .agg (a.map λz=> .lit (.string z))
theorem bs_of {s:ByteArray}{z:Str}(h:s.data.toList=z):s=bs z:=by
 subst h;apply ByteArray.ext;simp [bs]
theorem aCk {H:Type}{enc:TypeId×Value->H}{P:Program}{w:World}{c:Nat}{q:Nat->Bool}{d:Bool}{a:Nat}{t e:TypeId}{n:Nat}{cs:List Value}{g:List Str}{p:List MemPlace}
  (r:P.underlying t=some (.array n e)) (s:P.underlying e=some .string) (j:P.cellsOf e=1) (k:P.cellsOf t=n)
  (h:DataW.trod enc P w c q d a t cs=some (aAl g,p)):cs=g.map λz=>Value.string (bs z):=by
 cases a with
 |zero=>simp [DataW.trod]at h
 |succ a=>
  simp only [DataW.trod,r,j,k,Nat.mul_one]at h;split at h
  ·rename_i _;obtain⟨xs,o,u⟩:=Option.map_eq_some_iff.1 h;have f:xs.map (·.1)=g.map λz=>(DataW.lit (.string z):DataW H):=by
    have:=congrArg Prod.fst u;simpa [aAl]using this
   have v:xs.length=n:=by simpa using Lib.mapM_length o
   have x:g.length=n:=by
    have:=congrArg List.length f;simp at this;omega
   apply List.ext_getElem?;intro i
   by_cases hi:i<n
   ·obtain⟨b,y,A⟩:=Lib.mapM_at o i i (by simp [hi]);obtain⟨z,B,rfl,_⟩:=DataW.trod_string s A;have C:cs[i]? =some (.string z):=by
     have:=congrArg (·[0]?) B;simpa [List.getElem?_take,List.getElem?_drop]using this
    have l:(xs.map (·.1))[i]? =some (DataW.lit (.string z.data.toList):DataW H):=by simp [y]
    rw [f]at l;simp only [List.getElem?_map,Option.map_eq_some_iff,DataW.lit.injEq,Lit.string.injEq]at l;obtain⟨_,m,D⟩:=l;rw [C,List.getElem?_map,m];exact congrArg (λb=>some (Value.string b)) (bs_of D.symm)
   ·rw [List.getElem?_eq_none (by omega),List.getElem?_eq_none (by simp;omega)]
  ·cases h
theorem aDs {P:Program}{W:World}{a:String}{l:List Str}{rest:List (String×DataW Unit)}{g:Nat}{t e:TypeId}{n:Nat}
    (m:P.globalNamed a=some g)(c:(P.globals[g]?).map (·.type)=some t)(r:P.underlying t=some (.array n e))(s:P.underlying e=some .string)(d:P.cellsOf e=1)(f:P.cellsOf t=n)
    (h:laidMet P ((a,aAl l)::rest) W): ∀i z,l[i]? =some z->W.cell? ⟨g,i,none⟩=some (.string (bs z)):=by
 obtain⟨_,⟨_,_,_,_,_,_,j,k,b,u,_,_⟩,_⟩:=h;obtain rfl:=oI (m.symm.trans j);obtain rfl:=oI (c.symm.trans k);have v:=aCk r s d f u;intro i z w;have:=World.var?_cell m b i;rw [this,<-Array.getElem?_toList,v,List.getElem?_map,w];rfl
theorem uC {P:Program}{W:World}{a j:String}{x:DataW Unit}{rest:List (String×DataW Unit)}{g:Nat}{t:TypeId}{k:Array (String×TypeId)}
    (f:P.globalNamed a=some g)(c:(P.globals[g]?).map (·.type)=some t)(l:P.underlying t=some (.interface k))
    (h:laidMet P ((a,.iface j x)::rest) W): ∃T v,W.cell? ⟨g,0,none⟩=some (.iface T v):=by
 obtain⟨_,⟨_,_,_,_,_,_,d,e,b,m,_,_⟩,_⟩:=h;obtain rfl:=oI (f.symm.trans d);obtain rfl:=oI (c.symm.trans e);obtain⟨_,u,v,n,_,_⟩:=iface_of_trod l m;refine⟨u,v,?_⟩;have:=World.var?_cell f b 0;rw [this,<-Array.getElem?_toList,n];rfl
end Go.Lf
