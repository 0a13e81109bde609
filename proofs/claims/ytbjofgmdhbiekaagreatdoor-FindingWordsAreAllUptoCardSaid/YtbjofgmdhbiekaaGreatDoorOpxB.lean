/- Laws that the claim stands on; no condition beyond those stated. -/
import Derived.Test.YtbjofgmdhbiekaaGreatDoorLfQ
namespace Go.Lf
open Go.RowKit Go.OB Go.ChangeShapes Go.WideShapes Go.ChangeAt
section
variable {H:Type}{enc:TypeId×Value->H}{P:Program}{w:World}{base:Nat}{sp:Nat->Bool}{held:Bool}{B:DataW H->Nat}
structure aQm (B:DataW H->Nat):Prop where
 str: ∀s,s.length<=B (.lit (.string s))
 pos: ∀d,1<=B d
 sl: ∀es sp,(es.map B).sum<=B (.slice es sp)
 agg: ∀ps,(ps.map B).sum<=B (.agg ps)
def aFu (enc:TypeId×Value->H)(P:Program)(w:World)(base:Nat)(sp:Nat->Bool)(held:Bool)(B:DataW H->Nat)(t:TypeId){c:Type}(r:Rp c)(d:c->Prop)(k:c->Nat):Prop:=
 ∀b cs x,DataW.trod enc P w base sp held b t cs=some x-> ∃a,r.rd All w cs a/\d a/\k a<=B x.1
theorem aSe {e:TypeId}{d:Type}{r:Rp d}{o:d->Prop}{k:d->Nat}{a:Addr}{D:Nat->DataW H}{Pl:Nat->List MemPlace} (p:aFu enc P w base sp held B e r o k) (len:Nat)
  (b: ∀i,i<len-> ∃cs' n,w.cells? base (a.add (i*r.sz)) r.sz=some cs'/\DataW.trod enc P w base sp held n e cs'=some (D i,Pl i)):
  ∀n,n<=len-> ∃(xs:List Value) (l:List d),rows r All w xs l/\l.length=n/\(∀k v,xs[k]? =some v->w.cell? (a.add k)=some v)/\(∀x∈l,o x)/\(l.map k).sum<=(((List.range n).map D).map B).sum
 |0,_=>⟨[],[],rfl,rfl,by simp,by simp,by simp⟩
 |n+1,E=>by
  obtain⟨xs,l,h1,q,s,t,F⟩:=aSe p len b n (by omega);obtain⟨c,_,u,z⟩:=b n (by omega);obtain⟨y,A,C,hk⟩:=p _ _ _ z;obtain⟨_,g⟩:=aLi u;have j:=qC h1;refine⟨xs++c,l++[y],tY h1 (uT A),by simp [q],λk v f=>?_,λx j=>?_,?_⟩
  ·by_cases hk:k<xs.length
   ·rw [List.getElem?_append_left hk]at f;exact s k v f
   ·rw [List.getElem?_append_right (by omega)]at f;have:=g _ v f;rwa [add_add,show n*r.sz+(k-xs.length)=k by rw [j,q]at hk⊢;omega]at this
  ·rcases mA.1 j with h|h
   ·exact t x h
   ·obtain rfl:=mS.1 h;exact C
  ·rw [List.range_succ];simp only [List.map_append,List.sum_append,List.map_cons,List.map_nil,List.sum_cons,List.sum_nil];have hk:k y<=B (D n):=hk;omega
theorem opensB_sl {t e:TypeId}{j:Type}{r:Rp j}{u:j->Prop}{k:j->Nat} (C:aQm B) (E:P.underlying t=some (.slice e)) (F:P.cellsOf e=r.sz) (d:0<r.sz) (G:aFu enc P w base sp held B e r u k):
  aFu enc P w base sp held B t (Rp.sl r) (λl=>okL u l) (λl=>(l.map k).sum):=by
 intro _ _ _ h;rcases Deep.open_slice E h with ⟨rfl,_⟩|⟨a,len,cap,m,n,D,Pl,rfl,y,_,hm,o,p,q⟩
 ·exact⟨[],⟨_,rfl,SlF.nil⟩,⟨by simp,by simp⟩,by simp⟩
 ·have I:len<=m:=by rw [o];split<;>omega
  rw [maxLen_eq]at hm;obtain⟨xs,l,h1,g,z,J,K⟩:=aSe (a:=a) (D:=D) (Pl:=Pl) G len (λi _=>by
   obtain⟨c,h1,g⟩:=q i (by omega);exact⟨c,n,by rw [<-F];exact h1,g⟩) len (Nat.le_refl _)
  have A:=qC h1;have f:0<len->a.spot=none/\a.block<w.heap.size:=by
   intro L;have s:0<xs.length:=by rw [A,g];exact Nat.mul_pos L d
   have:=z 0 xs[0] (gE s);have M:a.add 0=a:=by simp [Addr.add]
   rw [M]at this;exact⟨aFm this,World.block_lt_of_cell? _ _ this⟩
  refine⟨l,⟨_,rfl,xs,h1,⟨A,.inr ⟨a,cap,by rw [g],by omega,by rw [maxLen_eq];omega,λh=>(f (by omega)).1,z⟩⟩,λh b y=>⟨trivial,?_⟩⟩,⟨by omega,J⟩,?_⟩
  ·have:b=a.block:=by simpa [nY,eq_comm]using y
   rw [this];exact(f (by omega)).2
  ·rw [p];exact Nat.le_trans K (C.sl _ _)
def partsOf:DataW H->List (DataW H)
 | .agg a=>a
 |_=>[]
theorem partB {t ft:TypeId}{p:Type}{r:Rp p}{q:p->Prop}{k:p->Nat}{i j off b s:Nat}{cs:List Value}{x:DataW H×List MemPlace} (u:i+1=j) (v:aFu enc P w base sp held B ft r q k) (o:aAn P t i=some (ft,off)) (y:P.cellsOf ft=s) (h:DataW.trod enc P w base sp held b t cs=some x):
    ∃a,r.rd All w ((cs.drop off).take s) a/\q a/\k a+(((partsOf x.1).drop j).map B).sum<=(((partsOf x.1).drop i).map B).sum:=by
 subst u;unfold aAn at o;split at o;rename_i _ z;obtain⟨f,c,d⟩:=Option.map_eq_some_iff.1 o;obtain⟨xs,_,_,A,_,e,g⟩:=DataW.trod_struct z h;have hi:=g i f c;have l:i<xs.length:=by rw [e];exact(Array.getElem?_eq_some_iff.1 c).1
 rw [gE l]at hi;have C:f.type=ft:=congrArg Prod.fst d;have D:f.offset=off:=congrArg Prod.snd d;rw [C,D,y]at hi;obtain⟨a,h1,E,_⟩:=v _ _ _ hi;refine⟨a,h1,E,?_⟩;rw [A];show k a+(((xs.map (·.1)).drop (i+1)).map B).sum<=(((xs.map (·.1)).drop i).map B).sum;have m:i<(xs.map (·.1)).length:=by simpa using l
 rw [List.drop_eq_getElem_cons m,List.map_cons,List.sum_cons];have:(xs.map (·.1))[i]=xs[i].1:=by simp
 rw [this];omega;cases o
theorem parts_le (a:aQm B)(x:DataW H):(((partsOf x).drop 0).map B).sum<=B x:=by
 rw [List.drop_zero]
 cases x with
 |agg b=>exact a.agg b
 |_=>simp [partsOf]
end
end Go.Lf
