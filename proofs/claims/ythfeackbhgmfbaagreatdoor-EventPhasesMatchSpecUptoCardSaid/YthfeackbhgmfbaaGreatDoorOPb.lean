/- Laws that the claim stands on; no condition beyond those stated. -/
import Derived.Test.YthfeackbhgmfbaaGreatDoorLfR
namespace Go.Lf
open Go.RowKit Go.OB Go.ChangeShapes Go.WideShapes Go.ChangeAt
section
variable {H:Type}{enc:TypeId×Value->H}{P:Program}{w:World}{base:Nat}{sp:Nat->Bool}{held:Bool}
def OpB (M:Nat)(enc:TypeId×Value->H)(P:Program)(w:World)(base:Nat)(sp:Nat->Bool)(held:Bool)(t:TypeId){c:Type}(r:Rp c)(d:c->Prop):Prop:=
 ∀b cs x,b<M->DataW.trod enc P w base sp held b t cs=some x-> ∃a,r.rd All w cs a/\d a
theorem bAc {e:TypeId}{p:Type}{r:Rp p}{t:p->Prop}{a:Addr}{f:Nat} (u: ∀cs d,DataW.trod enc P w base sp held f e cs=some d-> ∃y,r.rd All w cs y/\t y) (len:Nat)
  (b: ∀i,i<len-> ∃j d,w.cells? base (a.add (i*r.sz)) r.sz=some j/\DataW.trod enc P w base sp held f e j=some d):
  ∀n,n<=len-> ∃(xs:List Value) (l:List p),rows r All w xs l/\l.length=n/\(∀k v,xs[k]? =some v->w.cell? (a.add k)=some v)/\ ∀x∈l,t x
 |0,_=>⟨[],[],rfl,rfl,by simp,by simp⟩
 |n+1,K=>by
  obtain⟨xs,l,z,A,D,E⟩:=bAc u len b n (by omega);obtain⟨c,d,F,G⟩:=b n (by omega);obtain⟨y,I,J⟩:=u _ _ G;obtain⟨_,q⟩:=aDw F;have s:=kZ z;refine⟨xs++c,l++[y],rJ z (wL I),by simp [A],λk v o=>?_,λx s=>?_⟩
  ·by_cases C:k<xs.length
   ·rw [List.getElem?_append_left C]at o;exact D k v o
   ·rw [List.getElem?_append_right (by omega)]at o;have:=q _ v o;rwa [add_add,show n*r.sz+(k-xs.length)=k by rw [s,A]at C⊢;omega]at this
  ·rcases mA.1 s with h|h
   ·exact E x h
   ·obtain rfl:=mS.1 h;exact J
theorem opB_sl {M:Nat}{t e:TypeId}{u:Type}{r:Rp u}{v:u->Prop} (G:P.underlying t=some (.slice e)) (I:P.cellsOf e=r.sz) (j:0<r.sz) (J:OpB M enc P w base sp held e r v):
  OpB (M+1) enc P w base sp held t (Rp.sl r) (λl=>l.length<=9223372036854775807/\ ∀x∈l,v x):=by
 intro _ cs x _ h;rcases DataW.trod_slice G h with ⟨rfl,_⟩|⟨a,len,cap,f,rest,n,rfl,rfl,rfl,z,_,hm,_,o,_,_⟩
 ·exact⟨[],⟨_,rfl,SlF.nil⟩,by simp,by simp⟩
 ·rw [maxLen_eq]at hm;obtain⟨xs,l,C,D,E,K⟩:=bAc (a:=a) (λcs d hd=>J n cs d (by omega) hd) len (λi hi=>by
   have p:i<f.length:=by omega
   have q:=o i hi;rw [gE p,Option.bind_eq_some_iff]at q;obtain⟨c,L,N⟩:=q;exact⟨c,_,by rw [<-I];exact L,N⟩) len (Nat.le_refl _)
  have F:=kZ C;have k:0<len->a.spot=none/\a.block<w.heap.size:=by
   intro O;have s:0<xs.length:=by rw [F,D];exact Nat.mul_pos O j
   have:=E 0 xs[0] (gE s);have Q:a.add 0=a:=by simp [Addr.add]
   rw [Q]at this;exact⟨aAz this,World.block_lt_of_cell? _ _ this⟩
  refine⟨l,⟨_,rfl,xs,C,⟨F,.inr ⟨a,cap,by rw [D],by omega,by rw [maxLen_eq];omega,λh=>(k (by omega)).1,E⟩⟩,λh b z=>⟨trivial,?_⟩⟩,by omega,K⟩;have:b=a.block:=by simpa [kM,eq_comm]using z
  rw [this];exact(k (by omega)).2
theorem part_rdB {M:Nat}{t ft:TypeId}{o:Type}{r:Rp o}{p:o->Prop}{i off b s:Nat}{cs:List Value}{x:DataW H×List MemPlace} (q:OpB M enc P w base sp held ft r p) (k:uQ P t i=some (ft,off)) (u:P.cellsOf ft=s) (A:b<=M) (h:DataW.trod enc P w base sp held b t cs=some x):
    ∃a,r.rd All w ((cs.drop off).take s) a/\p a:=by
 unfold uQ at k;split at k;rename_i _ v;obtain⟨f,c,d⟩:=Option.map_eq_some_iff.1 k;obtain⟨xs,n,rfl,_,_,e,j⟩:=DataW.trod_struct v h;have hi:=j i f c;have l:i<xs.length:=by rw [e];exact(Array.getElem?_eq_some_iff.1 c).1
 rw [gE l]at hi;have y:f.type=ft:=congrArg Prod.fst d;have z:f.offset=off:=congrArg Prod.snd d;rw [y,z,u]at hi;exact q n _ _ (by omega) hi;cases k
theorem opens_of {t:TypeId}{b:Type}{r:Rp b}{c:b->Prop}(h: ∀M,OpB M enc P w base sp held t r c):nV enc P w base sp held t r c:=
 λa cs x d=>h (a+1) a cs x (Nat.lt_succ_self _) d
end
section
variable {H:Type}{enc:TypeId×Value->H}{P:Program}{w:World}{base:Nat}{sp:Nat->Bool}{held:Bool}{B:DataW H->Nat}
structure aPz (B:DataW H->Nat):Prop where
 str: ∀s,s.length<=B (.lit (.string s))
 pos: ∀d,1<=B d
 sl: ∀es sp,(es.map B).sum<=B (.slice es sp)
 agg: ∀ps,(ps.map B).sum<=B (.agg ps)
def aHl (enc:TypeId×Value->H)(P:Program)(w:World)(base:Nat)(sp:Nat->Bool)(held:Bool)(B:DataW H->Nat)(t:TypeId){c:Type}(r:Rp c)(d:c->Prop)(k:c->Nat):Prop:=
 ∀b cs x,DataW.trod enc P w base sp held b t cs=some x-> ∃a,r.rd All w cs a/\d a/\k a<=B x.1
theorem aSp {e:TypeId}{j:Type}{r:Rp j}{s:j->Prop}{k:j->Nat}{a:Addr}{D:Nat->DataW H}{Pl:Nat->List MemPlace} (t:aHl enc P w base sp held B e r s k) (len:Nat)
  (b: ∀i,i<len-> ∃d n,w.cells? base (a.add (i*r.sz)) r.sz=some d/\DataW.trod enc P w base sp held n e d=some (D i,Pl i)):
  ∀n,n<=len-> ∃(xs:List Value) (l:List j),rows r All w xs l/\l.length=n/\(∀k v,xs[k]? =some v->w.cell? (a.add k)=some v)/\(∀x∈l,s x)/\(l.map k).sum<=(((List.range n).map D).map B).sum
 |0,_=>⟨[],[],rfl,rfl,by simp,by simp,by simp⟩
 |n+1,J=>by
  obtain⟨xs,l,u,z,A,C,K⟩:=aSp t len b n (by omega);obtain⟨c,m,E,F⟩:=b n (by omega);obtain⟨y,G,I,f⟩:=t _ _ _ F;obtain⟨_,p⟩:=aDw E;have q:=kZ u;refine⟨xs++c,l++[y],rJ u (wL G),by simp [z],λk v o=>?_,λx q=>?_,?_⟩
  ·by_cases f:k<xs.length
   ·rw [List.getElem?_append_left f]at o;exact A k v o
   ·rw [List.getElem?_append_right (by omega)]at o;have:=p _ v o;rwa [add_add,show n*r.sz+(k-xs.length)=k by rw [q,z]at f⊢;omega]at this
  ·rcases mA.1 q with h|h
   ·exact C x h
   ·obtain rfl:=mS.1 h;exact I
  ·rw [List.range_succ];simp only [List.map_append,List.sum_append,List.map_cons,List.map_nil,List.sum_cons,List.sum_nil];have f:k y<=B (D n):=f;omega
theorem opensB_sl {t e:TypeId}{p:Type}{r:Rp p}{y:p->Prop}{k:p->Nat} (F:aPz B) (G:P.underlying t=some (.slice e)) (I:P.cellsOf e=r.sz) (d:0<r.sz) (J:aHl enc P w base sp held B e r y k):
  aHl enc P w base sp held B t (Rp.sl r) (λl=>okL y l) (λl=>(l.map k).sum):=by
 intro _ _ _ h;rcases Deep.open_slice G h with ⟨rfl,_⟩|⟨a,len,cap,m,n,D,Pl,rfl,A,_,hm,q,s,u⟩
 ·exact⟨[],⟨_,rfl,SlF.nil⟩,⟨by simp,by simp⟩,by simp⟩
 ·have K:len<=m:=by rw [q];split<;>omega
  rw [maxLen_eq]at hm;obtain⟨xs,l,j,o,C,L,M⟩:=aSp (a:=a) (D:=D) (Pl:=Pl) J len (λi _=>by
   obtain⟨c,j,o⟩:=u i (by omega);exact⟨c,n,by rw [<-I];exact j,o⟩) len (Nat.le_refl _)
  have E:=kZ j;have f:0<len->a.spot=none/\a.block<w.heap.size:=by
   intro N;have v:0<xs.length:=by rw [E,o];exact Nat.mul_pos N d
   have:=C 0 xs[0] (gE v);have O:a.add 0=a:=by simp [Addr.add]
   rw [O]at this;exact⟨aAz this,World.block_lt_of_cell? _ _ this⟩
  refine⟨l,⟨_,rfl,xs,j,⟨E,.inr ⟨a,cap,by rw [o],by omega,by rw [maxLen_eq];omega,λh=>(f (by omega)).1,C⟩⟩,λh b A=>⟨trivial,?_⟩⟩,⟨by omega,L⟩,?_⟩
  ·have:b=a.block:=by simpa [kM,eq_comm]using A
   rw [this];exact(f (by omega)).2
  ·rw [s];exact Nat.le_trans M (F.sl _ _)
def partsOf:DataW H->List (DataW H)
 | .agg ps=>ps
 |_=>[]
theorem partB {t ft:TypeId}{u:Type}{r:Rp u}{v:u->Prop}{k:u->Nat}{i j off b s:Nat}{cs:List Value}{x:DataW H×List MemPlace} (y:i+1=j) (z:aHl enc P w base sp held B ft r v k) (q:uQ P t i=some (ft,off)) (A:P.cellsOf ft=s) (h:DataW.trod enc P w base sp held b t cs=some x):
    ∃a,r.rd All w ((cs.drop off).take s) a/\v a/\k a+(((partsOf x.1).drop j).map B).sum<=(((partsOf x.1).drop i).map B).sum:=by
 subst y;unfold uQ at q;split at q;rename_i _ C;obtain⟨f,c,d⟩:=Option.map_eq_some_iff.1 q;obtain⟨xs,_,_,D,_,e,l⟩:=DataW.trod_struct C h;have hi:=l i f c;have o:i<xs.length:=by rw [e];exact(Array.getElem?_eq_some_iff.1 c).1
 rw [gE o]at hi;have E:f.type=ft:=congrArg Prod.fst d;have F:f.offset=off:=congrArg Prod.snd d;rw [E,F,A]at hi;obtain⟨a,G,I,_⟩:=z _ _ _ hi;refine⟨a,G,I,?_⟩;rw [D];show k a+(((xs.map (·.1)).drop (i+1)).map B).sum<=(((xs.map (·.1)).drop i).map B).sum;have p:i<(xs.map (·.1)).length:=by simpa using o
 rw [List.drop_eq_getElem_cons p,List.map_cons,List.sum_cons];have:(xs.map (·.1))[i]=xs[i].1:=by simp
 rw [this];omega;cases q
theorem parts_le (a:aPz B)(x:DataW H):(((partsOf x).drop 0).map B).sum<=B x:=by
 rw [List.drop_zero]
 cases x with
 |agg ps=>exact a.agg ps
 |_=>simp [partsOf]
end
section
variable {H:Type}{enc:TypeId×Value->H}{P:Program}{w:World}{base:Nat}{sp:Nat->Bool}{held:Bool}{B:DataW H->Nat}
theorem aHe {t:TypeId}{c:Type}{r:Rp c}{d:c->Prop}(e:aPz B)(h:nV enc P w base sp held t r d):aHl enc P w base sp held B t r d (λ_=>1):=by
 intro b cs x f;obtain⟨a,i,j⟩:=h b cs x f;exact⟨a,i,j,e.pos _⟩
theorem bAg {a:Type}: ∀l:List a,(l.map λ_=>1).sum=l.length
 | []=>rfl
 |x::l=>by rw [List.map_cons,List.sum_cons,bAg l,List.length_cons];omega
end
end Go.Lf
