/- Laws that the claim stands on; no condition beyond those stated. -/
import Derived.Test.YtibkjjklfhfipaaGreatLfR
namespace Go.Lf
open Go.RowKit Go.OB Go.ChangeShapes Go.WideShapes Go.ChangeAt
section
variable {H:Type}{enc:TypeId×Value->H}{P:Program}{w:World}{base:Nat}{sp:Nat->Bool}{held:Bool}
def OpB (M:Nat)(enc:TypeId×Value->H)(P:Program)(w:World)(base:Nat)(sp:Nat->Bool)(held:Bool)(t:TypeId){c:Type}(r:Rp c)(d:c->Prop):Prop:=
 ∀b cs x,b<M->DataW.trod enc P w base sp held b t cs=some x-> ∃a,r.rd All w cs a/\d a
theorem bDn {e:TypeId}{q:Type}{r:Rp q}{u:q->Prop}{a:Addr}{f:Nat} (z: ∀cs d,DataW.trod enc P w base sp held f e cs=some d-> ∃y,r.rd All w cs y/\u y) (len:Nat)
  (j: ∀i,i<len-> ∃o d,w.cells? base (a.add (i*r.sz)) r.sz=some o/\DataW.trod enc P w base sp held f e o=some d):
  ∀n,n<=len-> ∃(b:List Value) (l:List q),rows r All w b l/\l.length=n/\(∀k v,b[k]? =some v->w.cell? (a.add k)=some v)/\ ∀x∈l,u x
 |0,_=>⟨[],[],rfl,rfl,by simp,by simp⟩
 |n+1,K=>by
  obtain⟨b,l,A,B,D,E⟩:=bDn z len j n (by omega);obtain⟨c,d,F,G⟩:=j n (by omega);obtain⟨y,I,J⟩:=z _ _ G;obtain⟨_,s⟩:=aLz F;have t:=nC A;refine⟨b++c,l++[y],vI A (aBu I),by simp [B],λk v p=>?_,λx t=>?_⟩
  ·by_cases C:k<b.length
   ·rw [List.getElem?_append_left C]at p;exact D k v p
   ·rw [List.getElem?_append_right (by omega)]at p;have:=s _ v p;rwa [add_add,show n*r.sz+(k-b.length)=k by rw [t,B]at C⊢;omega]at this
  ·rcases mA.1 t with h|h
   ·exact E x h
   ·obtain rfl:=mS.1 h;exact J
theorem opB_sl {M:Nat}{t e:TypeId}{y:Type}{r:Rp y}{z:y->Prop} (I:P.underlying t=some (.slice e)) (J:P.cellsOf e=r.sz) (j:0<r.sz) (K:OpB M enc P w base sp held e r z):
  OpB (M+1) enc P w base sp held t (Rp.sl r) (λl=>l.length<=9223372036854775807/\ ∀x∈l,z x):=by
 intro _ cs x _ h;rcases DataW.trod_slice I h with ⟨rfl,_⟩|⟨a,len,o,f,rest,n,rfl,rfl,rfl,B,_,hm,_,p,_,_⟩
 ·exact⟨[],⟨_,rfl,SlF.nil⟩,by simp,by simp⟩
 ·rw [maxLen_eq]at hm;obtain⟨s,l,D,E,F,L⟩:=bDn (a:=a) (λcs d hd=>K n cs d (by omega) hd) len (λi hi=>by
   have u:i<f.length:=by omega
   have q:=p i hi;rw [gE u,Option.bind_eq_some_iff]at q;obtain⟨c,N,O⟩:=q;exact⟨c,_,by rw [<-J];exact N,O⟩) len (Nat.le_refl _)
  have G:=nC D;have k:0<len->a.spot=none/\a.block<w.heap.size:=by
   intro Q;have v:0<s.length:=by rw [G,E];exact Nat.mul_pos Q j
   have:=F 0 s[0] (gE v);have R:a.add 0=a:=by simp [Addr.add]
   rw [R]at this;exact⟨aEz this,World.block_lt_of_cell? _ _ this⟩
  refine⟨l,⟨_,rfl,s,D,⟨G,.inr ⟨a,o,by rw [E],by omega,by rw [maxLen_eq];omega,λh=>(k (by omega)).1,F⟩⟩,λh b B=>⟨trivial,?_⟩⟩,by omega,L⟩;have:b=a.block:=by simpa [kT,eq_comm]using B
  rw [this];exact(k (by omega)).2
theorem part_rdB {M:Nat}{t ft:TypeId}{o:Type}{r:Rp o}{p:o->Prop}{i off b s:Nat}{cs:List Value}{x:DataW H×List MemPlace} (q:OpB M enc P w base sp held ft r p) (k:aAw P t i=some (ft,off)) (u:P.cellsOf ft=s) (B:b<=M) (h:DataW.trod enc P w base sp held b t cs=some x):
    ∃a,r.rd All w ((cs.drop off).take s) a/\p a:=by
 unfold aAw at k;split at k;rename_i _ v;obtain⟨f,c,d⟩:=Option.map_eq_some_iff.1 k;obtain⟨y,n,rfl,_,_,e,j⟩:=DataW.trod_struct v h;have hi:=j i f c;have l:i<y.length:=by rw [e];exact(Array.getElem?_eq_some_iff.1 c).1
 rw [gE l]at hi;have z:f.type=ft:=congrArg Prod.fst d;have A:f.offset=off:=congrArg Prod.snd d;rw [z,A,u]at hi;exact q n _ _ (by omega) hi;cases k
theorem opens_of {t:TypeId}{b:Type}{r:Rp b}{c:b->Prop}(h: ∀M,OpB M enc P w base sp held t r c):kN enc P w base sp held t r c:=
 λa cs x d=>h (a+1) a cs x (Nat.lt_succ_self _) d
end
end Go.Lf
