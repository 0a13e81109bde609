/- Laws that the claim stands on; no condition beyond those stated. -/
import Derived.Test.YtnccbhdmemheeaaGreatDoorLfR
namespace Go.Lf
open Go.RowKit Go.OB Go.ChangeShapes Go.WideShapes Go.ChangeAt
section
variable {H:Type}{enc:TypeId×Value->H}{P:Program}{w:World}{base:Nat}{sp:Nat->Bool}{held:Bool}
def OpB (M:Nat)(enc:TypeId×Value->H)(P:Program)(w:World)(base:Nat)(sp:Nat->Bool)(held:Bool)(t:TypeId){c:Type}(r:Rp c)(d:c->Prop):Prop:=
 ∀b cs x,b<M->DataW.trod enc P w base sp held b t cs=some x-> ∃a,r.rd All w cs a/\d a
theorem bAn {e:TypeId}{p:Type}{r:Rp p}{t:p->Prop}{a:Addr}{f:Nat} (u: ∀cs d,DataW.trod enc P w base sp held f e cs=some d-> ∃y,r.rd All w cs y/\t y) (len:Nat)
  (b: ∀i,i<len-> ∃j d,w.cells? base (a.add (i*r.sz)) r.sz=some j/\DataW.trod enc P w base sp held f e j=some d):
  ∀n,n<=len-> ∃(xs:List Value) (l:List p),rows r All w xs l/\l.length=n/\(∀k v,xs[k]? =some v->w.cell? (a.add k)=some v)/\ ∀x∈l,t x
 |0,_=>⟨[],[],rfl,rfl,by simp,by simp⟩
 |n+1,J=>by
  obtain⟨xs,l,z,A,C,D⟩:=bAn u len b n (by omega);obtain⟨c,d,E,F⟩:=b n (by omega);obtain⟨y,G,I⟩:=u _ _ F;obtain⟨_,q⟩:=aLu E;have s:=nI z;refine⟨xs++c,l++[y],sZ z (aCl G),by simp [A],λk v o=>?_,λx s=>?_⟩
  ·by_cases B:k<xs.length
   ·rw [List.getElem?_append_left B]at o;exact C k v o
   ·rw [List.getElem?_append_right (by omega)]at o;have:=q _ v o;rwa [add_add,show n*r.sz+(k-xs.length)=k by rw [s,A]at B⊢;omega]at this
  ·rcases mA.1 s with h|h
   ·exact D x h
   ·obtain rfl:=mS.1 h;exact I
theorem opB_sl {M:Nat}{t e:TypeId}{u:Type}{r:Rp u}{v:u->Prop} (F:P.underlying t=some (.slice e)) (G:P.cellsOf e=r.sz) (j:0<r.sz) (I:OpB M enc P w base sp held e r v):
  OpB (M+1) enc P w base sp held t (Rp.sl r) (λl=>l.length<=9223372036854775807/\ ∀x∈l,v x):=by
 intro _ cs x _ h;rcases DataW.trod_slice F h with ⟨rfl,_⟩|⟨a,len,cap,f,rest,n,rfl,rfl,rfl,z,_,hm,_,o,_,_⟩
 ·exact⟨[],⟨_,rfl,SlF.nil⟩,by simp,by simp⟩
 ·rw [maxLen_eq]at hm;obtain⟨xs,l,B,C,D,J⟩:=bAn (a:=a) (λcs d hd=>I n cs d (by omega) hd) len (λi hi=>by
   have p:i<f.length:=by omega
   have q:=o i hi;rw [gE p,Option.bind_eq_some_iff]at q;obtain⟨c,K,L⟩:=q;exact⟨c,_,by rw [<-G];exact K,L⟩) len (Nat.le_refl _)
  have E:=nI B;have k:0<len->a.spot=none/\a.block<w.heap.size:=by
   intro N;have s:0<xs.length:=by rw [E,C];exact Nat.mul_pos N j
   have:=D 0 xs[0] (gE s);have O:a.add 0=a:=by simp [Addr.add]
   rw [O]at this;exact⟨aFz this,World.block_lt_of_cell? _ _ this⟩
  refine⟨l,⟨_,rfl,xs,B,⟨E,.inr ⟨a,cap,by rw [C],by omega,by rw [maxLen_eq];omega,λh=>(k (by omega)).1,D⟩⟩,λh b z=>⟨trivial,?_⟩⟩,by omega,J⟩;have:b=a.block:=by simpa [jC,eq_comm]using z
  rw [this];exact(k (by omega)).2
theorem part_rdB {M:Nat}{t ft:TypeId}{o:Type}{r:Rp o}{p:o->Prop}{i off b s:Nat}{cs:List Value}{x:DataW H×List MemPlace} (q:OpB M enc P w base sp held ft r p) (k:aAu P t i=some (ft,off)) (u:P.cellsOf ft=s) (A:b<=M) (h:DataW.trod enc P w base sp held b t cs=some x):
    ∃a,r.rd All w ((cs.drop off).take s) a/\p a:=by
 unfold aAu at k;split at k;rename_i _ v;obtain⟨f,c,d⟩:=Option.map_eq_some_iff.1 k;obtain⟨xs,n,rfl,_,_,e,j⟩:=DataW.trod_struct v h;have hi:=j i f c;have l:i<xs.length:=by rw [e];exact(Array.getElem?_eq_some_iff.1 c).1
 rw [gE l]at hi;have y:f.type=ft:=congrArg Prod.fst d;have z:f.offset=off:=congrArg Prod.snd d;rw [y,z,u]at hi;exact q n _ _ (by omega) hi;cases k
theorem opens_of {t:TypeId}{b:Type}{r:Rp b}{c:b->Prop}(h: ∀M,OpB M enc P w base sp held t r c):jM enc P w base sp held t r c:=
 λa cs x d=>h (a+1) a cs x (Nat.lt_succ_self _) d
end
end Go.Lf
