/- Laws that the claim stands on; no condition beyond those stated. -/
import Derived.Test.YthgccglopkgghaaGreatDoorLfR
namespace Go.Lf
open Go.RowKit Go.OB Go.ChangeShapes Go.WideShapes Go.ChangeAt
section
variable {H:Type}{enc:TypeId×Value->H}{P:Program}{w:World}{base:Nat}{sp:Nat->Bool}{held:Bool}
def OpB (M:Nat)(enc:TypeId×Value->H)(P:Program)(w:World)(base:Nat)(sp:Nat->Bool)(held:Bool)(t:TypeId){c:Type}(r:Rp c)(d:c->Prop):Prop:=
 ∀b cs x,b<M->DataW.trod enc P w base sp held b t cs=some x-> ∃a,r.rd All w cs a/\d a
theorem aLz {e:TypeId}{m:Type}{r:Rp m}{q:m->Prop}{a:Addr}{f:Nat} (s: ∀cs d,DataW.trod enc P w base sp held f e cs=some d-> ∃y,r.rd All w cs y/\q y) (len:Nat)
  (b: ∀i,i<len-> ∃g d,w.cells? base (a.add (i*r.sz)) r.sz=some g/\DataW.trod enc P w base sp held f e g=some d):
  ∀n,n<=len-> ∃(xs:List Value) (l:List m),rows r All w xs l/\l.length=n/\(∀k v,xs[k]? =some v->w.cell? (a.add k)=some v)/\ ∀x∈l,q x
 |0,_=>⟨[],[],rfl,rfl,by simp,by simp⟩
 |n+1,G=>by
  obtain⟨xs,l,t,u,A,B⟩:=aLz s len b n (by omega);obtain⟨c,d,C,D⟩:=b n (by omega);obtain⟨y,E,F⟩:=s _ _ D;obtain⟨_,o⟩:=cells_some C;have p:=vH t;refine⟨xs++c,l++[y],aBs t (rows_single E),by simp [u],λk v j=>?_,λx p=>?_⟩
  ·by_cases z:k<xs.length
   ·rw [List.getElem?_append_left z]at j;exact A k v j
   ·rw [List.getElem?_append_right (by omega)]at j;have:=o _ v j;rwa [add_add,show n*r.sz+(k-xs.length)=k by rw [p,u]at z⊢;omega]at this
  ·rcases mA.1 p with h|h
   ·exact B x h
   ·obtain rfl:=mS.1 h;exact F
theorem opB_sl {M:Nat}{t e:TypeId}{p:Type}{r:Rp p}{s:p->Prop} (D:P.underlying t=some (.slice e)) (E:P.cellsOf e=r.sz) (g:0<r.sz) (F:OpB M enc P w base sp held e r s):
  OpB (M+1) enc P w base sp held t (Rp.sl r) (λl=>l.length<=9223372036854775807/\ ∀x∈l,s x):=by
 intro _ cs x _ h;rcases DataW.trod_slice D h with ⟨rfl,_⟩|⟨a,len,cap,f,rest,n,rfl,rfl,rfl,v,_,G,_,k,_,_⟩
 ·exact⟨[],⟨_,rfl,SlF.nil⟩,by simp,by simp⟩
 ·rw [maxLen_eq]at G;obtain⟨xs,l,z,A,B,I⟩:=aLz (a:=a) (λcs d J=>F n cs d (by omega) J) len (λi hi=>by
   have m:i<f.length:=by omega
   have q:=k i hi;rw [gE m,Option.bind_eq_some_iff]at q;obtain⟨c,K,L⟩:=q;exact⟨c,_,by rw [<-E];exact K,L⟩) len (Nat.le_refl _)
  have C:=vH z;have j:0<len->a.spot=none/\a.block<w.heap.size:=by
   intro N;have o:0<xs.length:=by rw [C,A];exact Nat.mul_pos N g
   have:=B 0 xs[0] (gE o);have e0:a.add 0=a:=by simp [Addr.add]
   rw [e0]at this;exact⟨spot_of_cell this,World.block_lt_of_cell? _ _ this⟩
  refine⟨l,⟨_,rfl,xs,z,⟨C,.inr ⟨a,cap,by rw [A],by omega,by rw [maxLen_eq];omega,λh=>(j (by omega)).1,B⟩⟩,λh b v=>⟨trivial,?_⟩⟩,by omega,I⟩;have:b=a.block:=by simpa [jY,eq_comm]using v
  rw [this];exact(j (by omega)).2
theorem part_rdB {M:Nat}{t ft:TypeId}{l:Type}{r:Rp l}{m:l->Prop}{i off b s:Nat}{cs:List Value}{x:DataW H×List MemPlace} (o:OpB M enc P w base sp held ft r m) (j:fieldTO P t i=some (ft,off)) (p:P.cellsOf ft=s) (y:b<=M) (h:DataW.trod enc P w base sp held b t cs=some x):
    ∃a,r.rd All w ((cs.drop off).take s) a/\m a:=by
 unfold fieldTO at j;split at j;rename_i _ q;obtain⟨f,c,d⟩:=Option.map_eq_some_iff.1 j;obtain⟨xs,n,rfl,_,_,e,g⟩:=DataW.trod_struct q h;have hi:=g i f c;have k:i<xs.length:=by rw [e];exact(Array.getElem?_eq_some_iff.1 c).1
 rw [gE k]at hi;have u:f.type=ft:=congrArg Prod.fst d;have v:f.offset=off:=congrArg Prod.snd d;rw [u,v,p]at hi;exact o n _ _ (by omega) hi;cases j
theorem opens_of {t:TypeId}{b:Type}{r:Rp b}{c:b->Prop}(h: ∀M,OpB M enc P w base sp held t r c):Opens enc P w base sp held t r c:=
 λa cs x d=>h (a+1) a cs x (Nat.lt_succ_self _) d
end
end Go.Lf
