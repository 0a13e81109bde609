/- Laws that the claim stands on; no condition beyond those stated. -/
import Derived.Test.YtbjofgmdhbiekaaGreatDoorLfR
import Derived.LaidLaws
import Derived.LaidSub
namespace Go.Lf
open Go.RowKit Go.OB
def aIn {H:Type}(zs:List Str):DataW H:= .agg (zs.map λz=> .lit (.string z))
theorem bs_of {s:ByteArray}{z:Str}(h:s.data.toList=z):s=bs z:=by
 subst h;apply ByteArray.ext;simp [bs]
theorem aMo {H:Type}{enc:TypeId×Value->H}{P:Program}{w:World}{base:Nat}{l:Nat->Bool}{c:Bool}{a:Nat}{t e:TypeId}{n:Nat}{cs:List Value}{zs:List Str}{p:List MemPlace}
  (m:P.underlying t=some (.array n e)) (o:P.underlying e=some .string) (f:P.cellsOf e=1) (g:P.cellsOf t=n)
  (h:DataW.trod enc P w base l c a t cs=some (aIn zs,p)):cs=zs.map λz=>Value.string (bs z):=by
 cases a with
 |zero=>simp [DataW.trod]at h
 |succ a=>
  simp only [DataW.trod,m,f,g,Nat.mul_one]at h;split at h
  ·rename_i _;obtain⟨xs,hm,q⟩:=Option.map_eq_some_iff.1 h;have d:xs.map (·.1)=zs.map λz=>(DataW.lit (.string z):DataW H):=by
    have:=congrArg Prod.fst q;simpa [aIn]using this
   have r:xs.length=n:=by simpa using Lib.mapM_length hm
   have s:zs.length=n:=by
    have:=congrArg List.length d;simp at this;omega
   apply List.ext_getElem?;intro i
   by_cases hi:i<n
   ·obtain⟨b,u,v⟩:=Lib.mapM_at hm i i (by simp [hi]);obtain⟨z,x,rfl,_⟩:=DataW.trod_string o v;have h1:cs[i]? =some (.string z):=by
     have:=congrArg (·[0]?) x;simpa [List.getElem?_take,List.getElem?_drop]using this
    have j:(xs.map (·.1))[i]? =some (DataW.lit (.string z.data.toList):DataW H):=by simp [u]
    rw [d]at j;simp only [List.getElem?_map,Option.map_eq_some_iff,DataW.lit.injEq,Lit.string.injEq]at j;obtain⟨_,k,y⟩:=j;rw [h1,List.getElem?_map,k];exact congrArg (λb=>some (Value.string b)) (bs_of y.symm)
   ·rw [List.getElem?_eq_none (by omega),List.getElem?_eq_none (by simp;omega)]
  ·cases h
theorem aQs {P:Program}{W:World}{a:String}{zs:List Str}{rest:List (String×DataW Unit)}{g:Nat}{t e:TypeId}{n:Nat}
    (l:P.globalNamed a=some g)(c:(P.globals[g]?).map (·.type)=some t)(o:P.underlying t=some (.array n e))(r:P.underlying e=some .string)(d:P.cellsOf e=1)(f:P.cellsOf t=n)
    (h:laidMet P ((a,aIn zs)::rest) W): ∀i z,zs[i]? =some z->W.cell? ⟨g,i,none⟩=some (.string (bs z)):=by
 obtain⟨_,⟨_,_,_,_,_,_,j,k,b,hd,_,_⟩,_⟩:=h;obtain rfl:=oI (l.symm.trans j);obtain rfl:=oI (c.symm.trans k);have s:=aMo o r d f hd;intro i z u;have:=World.var?_cell l b i;rw [this,<-Array.getElem?_toList,s,List.getElem?_map,u];rfl
theorem aMn {P:Program}{W:World}{a j:String}{x:DataW Unit}{rest:List (String×DataW Unit)}{g:Nat}{t:TypeId}{k:Array (String×TypeId)}
    (f:P.globalNamed a=some g)(c:(P.globals[g]?).map (·.type)=some t)(l:P.underlying t=some (.interface k))
    (h:laidMet P ((a,.iface j x)::rest) W): ∃T v,W.cell? ⟨g,0,none⟩=some (.iface T v):=by
 obtain⟨_,⟨_,_,_,_,_,_,d,e,b,hd,_,_⟩,_⟩:=h;obtain rfl:=oI (f.symm.trans d);obtain rfl:=oI (c.symm.trans e);obtain⟨_,u,v,m,_,_⟩:=iface_of_trod l hd;refine⟨u,v,?_⟩;have:=World.var?_cell f b 0;rw [this,<-Array.getElem?_toList,m];rfl
end Go.Lf
