/- Laws that the claim stands on; no condition beyond those stated. -/
import Derived.Test.YtbjofgmdhbiekaaGreatDoorLfR
import Derived.LaidLaws
import Derived.LaidSub
namespace Go.Lf
open Go.RowKit Go.OB
def aIl {H:Type}(zs:List Str):DataW H:= .agg (zs.map λz=> .lit (.string z))
theorem bs_of {s:ByteArray}{z:Str}(h:s.data.toList=z):s=bs z:=by
 subst h;apply ByteArray.ext;simp [bs]
theorem aLx {H:Type}{enc:TypeId×Value->H}{P:Program}{w:World}{base:Nat}{m:Nat->Bool}{c:Bool}{a:Nat}{t e:TypeId}{n:Nat}{cs:List Value}{zs:List Str}{p:List MemPlace}
  (o:P.underlying t=some (.array n e)) (q:P.underlying e=some .string) (f:P.cellsOf e=1) (g:P.cellsOf t=n)
  (h:DataW.trod enc P w base m c a t cs=some (aIl zs,p)):cs=zs.map λz=>Value.string (bs z):=by
 cases a with
 |zero=>simp [DataW.trod]at h
 |succ a=>
  simp only [DataW.trod,o,f,g,Nat.mul_one]at h;split at h
  ·rename_i _;obtain⟨xs,hm,s⟩:=Option.map_eq_some_iff.1 h;have d:xs.map (·.1)=zs.map λz=>(DataW.lit (.string z):DataW H):=by
    have:=congrArg Prod.fst s;simpa [aIl]using this
   have u:xs.length=n:=by simpa using Lib.mapM_length hm
   have v:zs.length=n:=by
    have:=congrArg List.length d;simp at this;omega
   apply List.ext_getElem?;intro i
   by_cases hi:i<n
   ·obtain⟨b,x,y⟩:=Lib.mapM_at hm i i (by simp [hi]);obtain⟨z,A,rfl,_⟩:=DataW.trod_string q y;have B:cs[i]? =some (.string z):=by
     have:=congrArg (·[0]?) A;simpa [List.getElem?_take,List.getElem?_drop]using this
    have j:(xs.map (·.1))[i]? =some (DataW.lit (.string z.data.toList):DataW H):=by simp [x]
    rw [d]at j;simp only [List.getElem?_map,Option.map_eq_some_iff,DataW.lit.injEq,Lit.string.injEq]at j;obtain⟨_,k,C⟩:=j;rw [B,List.getElem?_map,k];exact congrArg (λb=>some (Value.string b)) (bs_of C.symm)
   ·rw [List.getElem?_eq_none (by omega),List.getElem?_eq_none (by simp;omega)]
  ·cases h
theorem aQa {P:Program}{W:World}{a:String}{zs:List Str}{rest:List (String×DataW Unit)}{g:Nat}{t e:TypeId}{n:Nat}
    (m:P.globalNamed a=some g)(c:(P.globals[g]?).map (·.type)=some t)(s:P.underlying t=some (.array n e))(u:P.underlying e=some .string)(d:P.cellsOf e=1)(f:P.cellsOf t=n)
    (h:laidMet P ((a,aIl zs)::rest) W): ∀i z,zs[i]? =some z->W.cell? ⟨g,i,none⟩=some (.string (bs z)):=by
 obtain⟨_,⟨_,_,_,_,_,_,j,k,b,hd,_,_⟩,_⟩:=h;obtain rfl:=oI (m.symm.trans j);obtain rfl:=oI (c.symm.trans k);have v:=aLx s u d f hd;intro i z w;have:=World.var?_cell m b i;rw [this,<-Array.getElem?_toList,v,List.getElem?_map,w];rfl
theorem aLy {P:Program}{W:World}{a j:String}{x:DataW Unit}{rest:List (String×DataW Unit)}{g:Nat}{t:TypeId}{k:Array (String×TypeId)}
    (f:P.globalNamed a=some g)(c:(P.globals[g]?).map (·.type)=some t)(m:P.underlying t=some (.interface k))
    (h:laidMet P ((a,.iface j x)::rest) W): ∃T v,W.cell? ⟨g,0,none⟩=some (.iface T v):=by
 obtain⟨_,⟨_,_,_,_,_,_,d,e,b,hd,_,_⟩,_⟩:=h;obtain rfl:=oI (f.symm.trans d);obtain rfl:=oI (c.symm.trans e);obtain⟨_,u,v,n,_,_⟩:=iface_of_trod m hd;refine⟨u,v,?_⟩;have:=World.var?_cell f b 0;rw [this,<-Array.getElem?_toList,n];rfl
end Go.Lf
