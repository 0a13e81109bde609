/- Laws that the claim stands on; no condition beyond those stated. -/
import Derived.Test.YtbjofgmdhbiekaaGreatDoorBKa
namespace Go.Lf
open Go.RowKit Go.OB
section
variable {γ β:Type}
theorem loopO_mu {body:(γ->Option β)->γ->Option β} (I:γ->Prop) (d:γ->Nat) (Q:β->Prop)
  (h: ∀g,I g->(∃b,I b/\d b<d g/\ ∀k,body k g=k b)\/(∃r,Q r/\ ∀k,body k g=some r)): ∀(n:Nat) (g:γ) (a:Nat),I g->d g<=n->n<a-> ∃r,bZ body a g=some r/\Q r:=by
 intro n
 induction n with
 |zero=>
  intro g a i hm m;obtain⟨f,rfl⟩: ∃f,a=f+1:=⟨a-1,by omega⟩;rcases h g i with ⟨b,-,o,-⟩|⟨r,c,j⟩
  ·omega
  ·exact⟨r,j _,c⟩
 |succ n p=>
  intro g a i hm m;obtain⟨f,rfl⟩: ∃f,a=f+1:=⟨a-1,by omega⟩;rcases h g i with ⟨b,q,o,s⟩|⟨r,c,j⟩
  ·obtain⟨r,e,c⟩:=p b f q (by omega) (by omega);exact⟨r,(s _).trans e,c⟩
  ·exact⟨r,j _,c⟩
theorem uF {body:(γ->Option β)->γ->Option β}(I:γ->Prop)(a:γ->Nat)(Q:β->Prop)
  (h: ∀g,I g->(∃b,I b/\a b<a g/\ ∀k,body k g=k b)\/(∃r,Q r/\ ∀k,body k g=some r)){g:γ}(c:I g)(hm:a g<=1000000): ∃r,gY body g=some r/\Q r:=
 loopO_mu I a Q h 1000000 g FU c hm (aAv (by omega))
end
theorem aRs {a:Type}(A:List a)(x:a)(B:List a){i:Int}(h:i=(A.length:Int)):at' (A++x::B) i=some x:=by
 subst h;rw [aBw];simp
theorem aHl {a:Type}(A:List a)(x y:a)(B:List a){i:Int}(h:i=(A.length:Int)):set' (A++x::B) i y=some (A++y::B):=by
 subst h;unfold set';rw [if_pos ⟨by omega,by rw [List.length_append,List.length_cons];omega⟩];simp
theorem uS {a:Type}(A:List a)(x:a)(B:List a)(y:a)(C:List a){i j:Int}(hi:i=(A.length:Int))(c:j=((A.length+1+B.length:Nat):Int)):
    at' (A++x::(B++y::C)) i=some x/\at' (A++x::(B++y::C)) j=some y/\set' (A++x::(B++y::C)) i y=some (A++y::(B++y::C))/\at' (A++y::(B++y::C)) j=some y/\set' (A++y::(B++y::C)) j x=some (A++y::(B++x::C)):=by
 have e: ∀z:a,A++z::(B++y::C)=(A++z::B)++y::C:=λz=>by simp
 have b: ∀z:a,j=((A++z::B).length:Int):=λz=>by rw [c];simp;omega
 refine⟨aRs A x _ hi,?_,aHl A x y _ hi,?_,?_⟩;rw [e];exact aRs _ y C (b x);rw [e];exact aRs _ y C (b y);rw [e,aHl _ y x C (b y)];simp
theorem aKn (P X M Y T:List Int) (c:X.length=Y.length) (u:P.length+X.length+M.length+Y.length+T.length<=1000000) {a b n:Int} (v:a=(P.length:Int)) (w:b=((P.length+X.length+M.length:Nat):Int)) (e:n=(X.length:Int)) (c0:List fB) (c1:Book):
  Fau (P++X++M++Y++T) a b n c0 c1=some (P++Y++M++X++T):=by
 unfold Fau Fh6;refine xO (λi=>((i:Int),P++Y.take i++X.drop i++M++X.take i++Y.drop i++T)) X.length (by omega) (by simp) (λk i h=>?_) (λk=>?_)
 ·have f:X.drop i=X[i]::X.drop (i+1):=List.drop_eq_getElem_cons h;have g:Y.drop i=Y[i]'(by omega)::Y.drop (i+1):=List.drop_eq_getElem_cons (by omega);have d:(P++Y.take i).length=P.length+i:=by rw [List.length_append,List.length_take];omega
  have m:(X.drop (i+1)++M++X.take i).length=X.length-(i+1)+M.length+i:=by rw [List.length_append,List.length_append,List.length_drop,List.length_take];omega
  have o:P++Y.take i++X.drop i++M++X.take i++Y.drop i++T=(P++Y.take i)++X[i]::((X.drop (i+1)++M++X.take i)++(Y[i]'(by omega))::(Y.drop (i+1)++T)):=by
   simp only [f,g,List.append_assoc,List.cons_append]
  have p:P++Y.take (i+1)++X.drop (i+1)++M++X.take (i+1)++Y.drop (i+1)++T=(P++Y.take i)++(Y[i]'(by omega))::((X.drop (i+1)++M++X.take i)++X[i]::(Y.drop (i+1)++T)):=by
   simp only [bF (gE h),bF (l:=Y) (gE (show i<Y.length by omega)),List.append_assoc,List.cons_append,List.nil_append]
  obtain⟨s1,s2,q,s,t⟩:=uS (P++Y.take i) X[i] (X.drop (i+1)++M++X.take i) (Y[i]'(by omega)) (Y.drop (i+1)++T) (i:=a+(i:Int)) (j:=b+(i:Int)) (by rw [d];omega) (by rw [d,m];omega);simp only [zK];rw [o,p,dT (show(i:Int)<n by omega),zU,Go.OB.wrap_i64 (n:=a+(i:Int)) (by omega) (by omega),Go.OB.wrap_i64 (n:=b+(i:Int)) (by omega) (by omega),Go.OB.wrap_i64 (n:=(i:Int)+1) (by omega) (by omega),s2,zC,s1,zC,zC,q,zC,s,zC,t,zC];rfl
 ·simp only [zK];rw [qD (by omega),zQ,List.take_length,List.drop_length,List.append_nil,c,List.take_length,List.drop_length,List.append_nil]
theorem aCg {c:Type}{l:List c}{j:Nat}(h:j<=l.length): ∃a b,l=a++b/\a.length=j/\b.length=l.length-j:=⟨l.take j,l.drop j,(List.take_append_drop _ _).symm,by rw [List.length_take];omega,List.length_drop⟩
theorem rot_eq (P U V T:List Int) (x:U.length≠0) (y:V.length≠0) (G:P.length+U.length+V.length+T.length<=500000) {a m b:Int} (H:a=(P.length:Int)) (hm:m=((P.length+U.length:Nat):Int)) (I:b=((P.length+U.length+V.length:Nat):Int)) (c0:List fB) (c1:Book):
  Fbk (P++U++V++T) a m b c0 c1=some (P++V++U++T):=by
 unfold Fbk;simp only [zK];rw [Go.OB.wrap_i64 (n:=m-a) (by omega) (by omega),Go.OB.wrap_i64 (n:=b-m) (by omega) (by omega)];have z: ∃r:Int×List Int,Ffx m c0 c1 (m-a,b-m,P++U++V++T)=some r/\ ∃A X Y B:List Int,r=((X.length:Int),P++A++X++Y++B++T)/\X.length=Y.length/\m=((P.length+A.length+X.length:Nat):Int)/\A++Y++X++B=V++U/\X.length+Y.length+A.length+B.length=U.length+V.length:=by
  unfold Ffx;refine uF (λg=> ∃A X Y B:List Int,g=((X.length:Int),(Y.length:Int),P++A++X++Y++B++T)/\X.length≠0/\Y.length≠0/\m=((P.length+A.length+X.length:Nat):Int)/\A++Y++X++B=V++U/\X.length+Y.length+A.length+B.length=U.length+V.length) (λg=>g.1.toNat+g.2.1.toNat) _ ?_ ⟨[],U,V,[],by
   simp only [List.append_nil,Prod.mk.injEq];exact⟨by omega,by omega,trivial⟩,x,y,by rw [List.length_nil];omega,by simp,by simp⟩ (by simp only;omega)
  rintro g ⟨A,X,Y,B,rfl,C,D,q,p,h⟩
  by_cases e:X.length=Y.length
  ·right
   refine⟨_,⟨A,X,Y,B,rfl,e,q,p,h⟩,λk=>?_⟩;simp only [zK];rw [qD (by omega),zQ]
  ·left
   by_cases c:Y.length<X.length
   ·obtain⟨i,o,rfl,s,u⟩:=aCg (l:=X) (j:=Y.length) (by omega);rw [List.length_append]at C q h e c u;refine⟨((o.length:Int),(i.length:Int),P++(A++Y)++o++i++B++T),⟨A++Y,o,i,B,rfl,by omega,by omega,by rw [List.length_append];omega,by rw [<-p];simp,by rw [List.length_append];omega⟩,by simp only [List.length_append];omega,λk=>?_⟩;simp only [zK,List.length_append];rw [dT (by omega),zU,dT (by omega),zU,Go.OB.wrap_i64 (n:=m-((i.length+o.length:Nat):Int)) (by omega) (by omega)];have t:=aKn (P++A) i o Y (B++T) s (by simp only [List.length_append];omega) (a:=m-((i.length+o.length:Nat):Int)) (b:=m) (n:=(Y.length:Int)) (by rw [List.length_append];omega) (by rw [List.length_append];omega) (by omega) c0 c1;rw [show P++A++(i++o)++Y++B++T=P++A++i++o++Y++(B++T)by simp,t,zC,Go.OB.wrap_i64 (n:=((i.length+o.length:Nat):Int)-(Y.length:Int)) (by omega) (by omega)];have v:((i.length+o.length:Nat):Int)-(Y.length:Int)=(o.length:Int):=by omega
    have w:(Y.length:Int)=(i.length:Int):=by omega
    rw [v,w]
    congr 3
    simp
   ·obtain⟨d,f,rfl,s,u⟩:=aCg (l:=Y) (j:=Y.length-X.length) (by omega);rw [List.length_append]at D h e c s u;refine⟨((f.length:Int),(d.length:Int),P++A++f++d++(X++B)++T),⟨A,f,d,X++B,rfl,by omega,by omega,by omega,by rw [<-p];simp,by rw [List.length_append];omega⟩,by simp only [List.length_append];omega,λk=>?_⟩;simp only [zK,List.length_append];rw [dT (by omega),zU,qD (by omega),zQ,Go.OB.wrap_i64 (n:=m-(X.length:Int)) (by omega) (by omega),Go.OB.wrap_i64 (n:=m+((d.length+f.length:Nat):Int)) (by omega) (by omega),Go.OB.wrap_i64 (n:=m+((d.length+f.length:Nat):Int)-(X.length:Int)) (by omega) (by omega)];have t:=aKn (P++A) X d f (B++T) (by omega) (by simp only [List.length_append];omega) (a:=m-(X.length:Int)) (b:=m+((d.length+f.length:Nat):Int)-(X.length:Int)) (n:=(X.length:Int)) (by rw [List.length_append];omega) (by rw [List.length_append];omega) rfl c0 c1;rw [show P++A++X++(d++f)++B++T=P++A++X++d++f++(B++T)by simp,t,zC,Go.OB.wrap_i64 (n:=((d.length+f.length:Nat):Int)-(X.length:Int)) (by omega) (by omega)];have v:((d.length+f.length:Nat):Int)-(X.length:Int)=(d.length:Int):=by omega
    have w:(X.length:Int)=(f.length:Int):=by omega
    rw [v,w]
    congr 3
    simp
 obtain⟨r,s,A,X,Y,B,rfl,E,_,F,_⟩:=z;rw [s,zC];show gB (Fau (P++A++X++Y++B++T) (IntKind.i64.wrap (m-(X.length:Int))) m (X.length:Int) c0 c1) _=_;rw [Go.OB.wrap_i64 (n:=m-(X.length:Int)) (by omega) (by omega)];have t:=aKn (P++A) X [] Y (B++T) E (by simp only [List.length_append,List.length_nil];omega) (a:=m-(X.length:Int)) (b:=m) (n:=(X.length:Int)) (by rw [List.length_append];omega) (by rw [List.length_append,List.length_nil];omega) rfl c0 c1;rw [show P++A++X++Y++B++T=P++A++X++[]++Y++(B++T)by simp,t,zC];have:P++A++Y++[]++X++(B++T)=P++(A++Y++X++B)++T:=by simp
 rw [this,F];simp
section
variable {β:Type}
theorem aJj {body:(Int×Int->Option β)->Int×Int->Option β} (K j n:Nat) (r:Option β)
  (s: ∀k (lo hi:Nat),j<=lo->lo<hi->hi<=n->lo<=K->K<=hi->body k ((lo:Int),(hi:Int))=if (lo+hi)/2<K then k (((lo+hi)/2+1:Nat),(hi:Int))else k ((lo:Int),((lo+hi)/2:Nat)))
  (o: ∀k,body k ((K:Int),(K:Int))=r): ∀(m lo hi a:Nat),j<=lo->hi-lo<=m->lo<=K->K<=hi->hi<=n->m<a->bZ body a ((lo:Int),(hi:Int))=r:=by
 intro m
 induction m with
 |zero=>
  intro lo hi a b t c d e u;obtain⟨f,rfl⟩: ∃f,a=f+1:=⟨a-1,by omega⟩;have g:lo=K:=by omega
  have i:hi=K:=by omega
  subst g;subst i;exact o _
 |succ m p=>
  intro lo hi a b t c d e u;obtain⟨f,rfl⟩: ∃f,a=f+1:=⟨a-1,by omega⟩
  by_cases h:lo<hi
  ·show body (bZ body f) _=r;rw [s _ lo hi b h e c d]
   by_cases q:(lo+hi)/2<K
   ·rw [if_pos q];exact p _ _ f (by omega) (by omega) (by omega) d e (by omega)
   ·rw [if_neg q];exact p _ _ f b (by omega) c (by omega) (by omega) (by omega)
  ·have g:lo=K:=by omega
   have i:hi=K:=by omega
   subst g;subst i;exact o _
end
theorem aJe {lo hi:Nat}(h:lo+hi<=2000000):IntKind.i64.wrap ((lo:Int)+(hi:Int))=((lo+hi:Nat):Int)/\IntKind.u64.wrap ((lo+hi:Nat):Int)=((lo+hi:Nat):Int)/\qH .u64 ((lo+hi:Nat):Int) 1=some (((lo+hi)/2:Nat):Int)/\IntKind.i64.wrap (((lo+hi)/2:Nat):Int)=(((lo+hi)/2:Nat):Int)/\IntKind.i64.wrap ((((lo+hi)/2:Nat):Int)+1)=(((lo+hi)/2+1:Nat):Int):=by
 refine⟨by rw [Go.OB.wrap_i64 (by omega) (by omega)];omega,by rw [IntKind.wrap_u64];omega,?_,Go.OB.wrap_i64 (by omega) (by omega),by rw [Go.OB.wrap_i64 (by omega) (by omega)];omega⟩;unfold qH;rw [if_pos (by decide)];congr 1
theorem aKl (q:Nat->Bool): ∀(d lo hi:Nat),hi-lo<=d->lo<=hi->(∀c f,lo<=c->c<f->f<hi->q c=false->q f=false)-> ∃K,lo<=K/\K<=hi/\(∀c,lo<=c->c<K->q c=true)/\ ∀c,K<=c->c<hi->q c=false:=by
 intro d
 induction d with
 |zero=>intro lo hi i g _;exact⟨lo,Nat.le_refl _,g,λc a b=>by omega,λc a b=>by omega⟩
 |succ d j=>
  intro lo hi i g hm
  by_cases e:lo=hi
  ·exact⟨lo,Nat.le_refl _,g,λc a b=>by omega,λc a b=>by omega⟩
  ·cases hq:q lo with
   |false=>exact⟨lo,Nat.le_refl _,g,λc a b=>by omega,λc a b=>by
     by_cases h:c=lo
     ·rw [h];exact hq
     ·exact hm lo c (Nat.le_refl _) (by omega) b hq⟩
   |true=>
    obtain⟨K,_,k,m,o⟩:=j (lo+1) hi (by omega) (by omega) λc f a b e=>hm c f (by omega) b e
    exact⟨K,by omega,k,λc a b=>by
     by_cases h:c=lo
     ·rw [h];exact hq
     ·exact m c (by omega) b,o⟩
structure aGm (pr:Int->Int->Bool)(c0:List fB)(c1:Book)(n:Int):Prop where
 cmp: ∀u v,0<=v->v<u->u<n-> ∃c,Fad u v c0 c1=some c/\decide (c<0)=pr u v
 irr: ∀x,pr x x=false
 tr: ∀x y z,0<=x->x<n->0<=y->y<n->0<=z->z<n->pr x y=true->pr y z=true->pr x z=true
 tot: ∀x y,0<=x->x<n->0<=y->y<n->x≠y->pr x y=true\/pr y x=true
def InR (n:Int)(l:List Int):Prop:= ∀x∈l,0<=x/\x<n
def Srd (pr:Int->Int->Bool)(l:List Int):Prop:=l.Pairwise λx y=>pr x y=true
theorem InR.l {n:Int}{a b:List Int}(h:InR n (a++b)):InR n a:=λx c=>h x (mA.2 (.inl c))
theorem InR.r {n:Int}{a b:List Int}(h:InR n (a++b)):InR n b:=λx c=>h x (mA.2 (.inr c))
theorem aJb {a:Type}(A B C:List a){i:Nat}(h:i<B.length){j:Int}(b:j=((A.length+i:Nat):Int)):at' (A++B++C) j=some B[i]:=by
 subst b;rw [aBw,List.append_assoc,List.getElem?_append_right (by omega),Nat.add_sub_cancel_left,List.getElem?_append_left h,gE h]
section
variable {pr:Int->Int->Bool}{c0:List fB}{c1:Book}{n:Int}
theorem merge1 (H:aGm pr c0 c1 n) (rf:List Int->Int->Int->Int->List fB->Book->Option (List Int)) (P:List Int) (x:Int) (R T:List Int) (s:0<=x/\x<n) (w:InR n R) (G:Srd pr R) (y: ∀u∈R,x<u) (hn:P.length+R.length+T.length<=100000) {a m b:Int} (ha:a=(P.length:Int)) (hm:m=((P.length+1:Nat):Int)) (hb:b=((P.length+1+R.length:Nat):Int)):
  ∃S,Faj rf (P++x::(R++T)) a m b c0 c1=some (P++S++T)/\S.Perm (x::R)/\Srd pr S:=by
 have z:=List.pairwise_iff_getElem.1 G;obtain⟨K,_,_,Q,X⟩:=aKl (λi=>match R[i]? with |some u=>pr u x|none=>false) R.length 0 R.length (by omega) (by omega) (λc A _ E o F=>by
  have d:R[c]? =some R[c]:=gE (by omega);have B:R[A]? =some R[A]:=gE o;simp only [d]at F;simp only [B]
  cases hq:pr R[A] x with
  |false=>rfl
  |true=>
   have Y:=w R[c] (List.getElem_mem (by omega));have q2:=w R[A] (List.getElem_mem o);have:=H.tr _ _ _ Y.1 Y.2 q2.1 q2.2 s.1 s.2 (z c A (by omega) o E) hq;rw [this]at F;cases F)
 have C: ∀(i:Nat) (h:i<R.length),∃c,Fad R[i] x c0 c1=some c/\decide (c<0)=decide (i<K):=by
  intro i h;have q:=w R[i] (List.getElem_mem h);obtain⟨c,E,o⟩:=H.cmp R[i] x s.1 (y _ (List.getElem_mem h)) q.2;refine⟨c,E,?_⟩;rw [o];have d:R[i]? =some R[i]:=gE h
  by_cases p:i<K
  ·have:=Q i (by omega) p;simp only [d]at this;rw [this,dT p]
  ·have:=X i (by omega) h;simp only [d]at this;rw [this,qD p]
 have I:Fd2 (P++x::(R++T)) a c0 c1 (m,b)=some ((P.length+1+K:Nat):Int):=by
  unfold Fd2 gY;rw [hm,hb];refine aJj (P.length+1+K) (P.length+1) (P.length+1+R.length) _ ?_ ?_ R.length (P.length+1) (P.length+1+R.length) FU (by omega) (by omega) (by omega) (by omega) (by omega) (aAv (by omega))
  ·intro k lo hi _ E o F _
   ·obtain⟨d,B,e3,e4,e5⟩:=aJe (lo:=lo) (hi:=hi) (by omega);have f:(lo+hi)/2-(P.length+1)<R.length:=by omega
    obtain⟨c,c2,c3⟩:=C ((lo+hi)/2-(P.length+1)) f;have ea:at' (P++x::(R++T)) (((lo+hi)/2:Nat):Int)=some (R[(lo+hi)/2-(P.length+1)]'f):=by
     rw [show P++x::(R++T)=(P++[x])++R++T by simp];exact aJb (P++[x]) R T f (by rw [List.length_append,List.length_singleton];omega)
    simp only [zK];rw [dT (show(lo:Int)<(hi:Int)by omega),zU,d,B,e3,zC,e4,ea,zC,aRs P x _ ha,zC,c2,zC,c3,yX]
    by_cases p:(lo+hi)/2<P.length+1+K
    ·rw [if_pos p,if_pos (by omega),e5]
    ·rw [if_neg p,if_neg (by omega)]
  ·intro k;simp only [zK];rw [qD (by omega),zQ]
 have ab:R=R.take K++R.drop K:=(List.take_append_drop K R).symm;have J:(R.take K).length=K:=by rw [List.length_take];omega
 have L:Fd9 ((P.length+1+K:Nat):Int) (a,P++x::(R++T))=some (P++(R.take K++x::R.drop K)++T):=by
  unfold Fd9;refine xO (λt=>(a+(t:Int),P++R.take t++x::(R.drop t++T))) K (by omega) (by simp) (λk t h=>?_) (λk=>?_)
  ·have hd:R.drop t=R[t]'(by omega)::R.drop (t+1):=List.drop_eq_getElem_cons (by omega);have D:(P++R.take t).length=P.length+t:=by rw [List.length_append,List.length_take];omega
   have d:P++R.take t++x::(R.drop t++T)=(P++R.take t)++x::([]++R[t]'(by omega)::(R.drop (t+1)++T)):=by simp only [hd,List.nil_append,List.cons_append]
   have B:P++R.take (t+1)++x::(R.drop (t+1)++T)=(P++R.take t)++R[t]'(by omega)::([]++x::(R.drop (t+1)++T)):=by
    simp only [bF (gE (show t<R.length by omega)),List.append_assoc,List.cons_append,List.nil_append]
   obtain⟨s1,s2,s3,s4,s5⟩:=uS (P++R.take t) x [] (R[t]'(by omega)) (R.drop (t+1)++T) (i:=a+(t:Int)) (j:=a+(t:Int)+1) (by rw [D];omega) (by rw [D,List.length_nil];omega);simp only [zK];rw [d,B,Go.OB.wrap_i64 (n:=((P.length+1+K:Nat):Int)-1) (by omega) (by omega),dT (by omega),zU,Go.OB.wrap_i64 (n:=a+(t:Int)+1) (by omega) (by omega),s2,zC,s1,zC,zC,s3,zC,s4,zC,s5,zC]
   congr 2
   omega
  ·simp only [zK];rw [Go.OB.wrap_i64 (n:=((P.length+1+K:Nat):Int)-1) (by omega) (by omega),qD (by omega),zQ];simp
 refine⟨R.take K++x::R.drop K,?_,?_,?_⟩
 ·unfold Faj;simp only [zK,yO];rw [Go.OB.wrap_i64 (n:=m-a) (by omega) (by omega),dT (by omega),zU,I,zC,L,zC]
 ·exact List.perm_middle.trans (by rw [List.take_append_drop])
 ·unfold Srd;rw [List.pairwise_append,List.pairwise_cons];refine⟨List.Pairwise.sublist (List.take_sublist _ _) G,⟨λu M=>?_,List.Pairwise.sublist (List.drop_sublist _ _) G⟩,λu M _ N=>?_⟩
  ·obtain⟨i,hi,rfl⟩:=List.mem_iff_getElem.1 M;rw [List.length_drop]at hi;rw [List.getElem_drop];have d:R[K+i]? =some R[K+i]:=gE (by omega);have q:=X (K+i) (by omega) (by omega);simp only [d]at q;have g:=List.getElem_mem (l:=R) (n:=K+i) (by omega);have O:x≠R[K+i]:=λ_=>by have:=y _ g;omega
   rcases H.tot x R[K+i] s.1 s.2 (w _ g).1 (w _ g).2 O with h|h
   ·exact h
   ·rw [h]at q;cases q
  ·obtain⟨i,hi,rfl⟩:=List.mem_iff_getElem.1 M;rw [J]at hi;rw [List.getElem_take];rcases List.mem_cons.1 N with rfl|N
   ·have d:R[i]? =some R[i]:=gE (by omega);have q:=Q i (by omega) hi;simp only [d]at q;exact q
   ·obtain⟨j,hj,rfl⟩:=List.mem_iff_getElem.1 N;rw [List.length_drop]at hj;rw [List.getElem_drop];exact z i (K+j) (by omega) (by omega) (by omega)
end
section
variable {pr:Int->Int->Bool}{c0:List fB}{c1:Book}{n:Int}
theorem merge2 (H:aGm pr c0 c1 n) (rf:List Int->Int->Int->Int->List fB->Book->Option (List Int)) (P L:List Int) (x:Int) (T:List Int) (y:0<=x/\x<n) (z:InR n L) (G:Srd pr L) (A: ∀u∈L,u<x) (ah:2<=L.length) (hn:P.length+L.length+T.length<=100000) {a m b:Int} (ha:a=(P.length:Int)) (hm:m=((P.length+L.length:Nat):Int)) (hb:b=((P.length+L.length+1:Nat):Int)):
  ∃S,Faj rf (P++L++x::T) a m b c0 c1=some (P++S++T)/\S.Perm (L++[x])/\Srd pr S:=by
 have B:=List.pairwise_iff_getElem.1 G;obtain⟨K,_,_,k3,k4⟩:=aKl (λi=>match L[i]? with |some u=> !pr x u|none=>false) L.length 0 L.length (by omega) (by omega) (λc F _ g s I=>by
  have d:L[c]? =some L[c]:=gE (by omega);have C:L[F]? =some L[F]:=gE s;simp only [d,Bool.not_eq_false']at I;simp only [C,Bool.not_eq_false'];have q1:=z L[c] (List.getElem_mem (by omega));have q2:=z L[F] (List.getElem_mem s);exact H.tr _ _ _ y.1 y.2 q1.1 q1.2 q2.1 q2.2 I (B c F (by omega) s g))
 have D: ∀(i:Nat) (h:i<L.length),∃c,Fad x L[i] c0 c1=some c/\(!decide (c<0))=decide (i<K):=by
  intro i h;have q:=z L[i] (List.getElem_mem h);obtain⟨c,g,s⟩:=H.cmp x L[i] q.1 (A _ (List.getElem_mem h)) y.2;refine⟨c,g,?_⟩;rw [s];have d:L[i]? =some L[i]:=gE h
  by_cases w:i<K
  ·have:=k3 i (by omega) w;simp only [d]at this;rw [this,dT w]
  ·have:=k4 i (by omega) h;simp only [d]at this;rw [this,qD w]
 subst ha hm hb;have J:at' (P++L++x::T) ((P.length+L.length:Nat):Int)=some x:=aRs (P++L) x T (by rw [List.length_append]);have M:Fc3 (P++L++x::T) ((P.length+L.length:Nat):Int) c0 c1 ((P.length:Int),((P.length+L.length:Nat):Int))=some ((P.length+K:Nat):Int):=by
  unfold Fc3 gY;refine aJj (P.length+K) P.length (P.length+L.length) _ ?_ ?_ L.length P.length (P.length+L.length) FU (by omega) (by omega) (by omega) (by omega) (by omega) (aAv (by omega))
  ·intro k lo hi _ g s I _;obtain⟨d,C,e3,e4,e5⟩:=aJe (lo:=lo) (hi:=hi) (by omega);have o:(lo+hi)/2-P.length<L.length:=by omega
   obtain⟨c,c2,c3⟩:=D ((lo+hi)/2-P.length) o;have ea:at' (P++L++x::T) (((lo+hi)/2:Nat):Int)=some (L[(lo+hi)/2-P.length]'o):=aJb P L (x::T) o (by omega);simp only [zK];rw [dT (show(lo:Int)<(hi:Int)by omega),zU,d,C,e3,zC,e4,J,zC,ea,zC,c2,zC,c3,yX]
   by_cases w:(lo+hi)/2<P.length+K
   ·rw [if_pos w,if_pos (by omega),e5]
   ·rw [if_neg w,if_neg (by omega)]
  ·intro k;simp only [zK];rw [qD (by omega),zQ]
 have N:(L.take K).length=K:=by rw [List.length_take];omega
 have O:Fcj ((P.length+K:Nat):Int) (((P.length+L.length:Nat):Int),P++L++x::T)=some (P++(L.take K++x::L.drop K)++T):=by
  unfold Fcj;refine xO (λt=>(((P.length+L.length:Nat):Int)-(t:Int),P++L.take (L.length-t)++x::(L.drop (L.length-t)++T))) (L.length-K) (by omega) (by simp) (λk t h=>?_) (λk=>?_)
  ·obtain⟨q,hq⟩: ∃q,L.length-t=q+1:=⟨L.length-t-1,by omega⟩;have Q:L.length-(t+1)=q:=by omega
   have E:q<L.length:=by omega
   have hd:L.drop q=L[q]::L.drop (q+1):=List.drop_eq_getElem_cons E;have f:(P++L.take q).length=P.length+q:=by rw [List.length_append,List.length_take];omega
   have d:P++L.take (q+1)++x::(L.drop (q+1)++T)=(P++L.take q)++L[q]::([]++x::(L.drop (q+1)++T)):=by
    simp only [bF (gE E),List.append_assoc,List.cons_append,List.nil_append]
   have C:P++L.take q++x::(L.drop q++T)=(P++L.take q)++x::([]++L[q]::(L.drop (q+1)++T)):=by
    simp only [hd,List.nil_append,List.cons_append]
   have R:((P.length+L.length:Nat):Int)-(t:Int)=((P.length+q:Nat):Int)+1:=by omega
   have X:((P.length+L.length:Nat):Int)-((t+1:Nat):Int)=((P.length+q:Nat):Int):=by omega
   obtain⟨s1,s2,_,_,_⟩:=uS (P++L.take q) L[q] [] x (L.drop (q+1)++T) (i:=((P.length+q:Nat):Int)) (j:=((P.length+q:Nat):Int)+1) (by rw [f]) (by rw [f,List.length_nil];omega);have r1:set' ((P++L.take q)++L[q]::([]++x::(L.drop (q+1)++T))) (((P.length+q:Nat):Int)+1) L[q]=some ((P++L.take q)++L[q]::([]++L[q]::(L.drop (q+1)++T))):=by
    have:=aHl (P++L.take q++[L[q]]) x L[q] (L.drop (q+1)++T) (i:=((P.length+q:Nat):Int)+1) (by rw [List.length_append,f,List.length_singleton];omega);simp only [List.append_assoc,List.cons_append,List.nil_append]at this⊢;exact this
   have r2:at' ((P++L.take q)++L[q]::([]++L[q]::(L.drop (q+1)++T))) ((P.length+q:Nat):Int)=some L[q]:=aRs (P++L.take q) L[q] _ (by rw [f]);have r3:set' ((P++L.take q)++L[q]::([]++L[q]::(L.drop (q+1)++T))) ((P.length+q:Nat):Int) x=some ((P++L.take q)++x::([]++L[q]::(L.drop (q+1)++T))):=aHl (P++L.take q) L[q] x _ (by rw [f]);simp only [zK];rw [hq,Q,d,C,R,X,dT (by omega),zU,Go.OB.wrap_i64 (n:=((P.length+q:Nat):Int)+1-1) (by omega) (by omega),show((P.length+q:Nat):Int)+1-1=((P.length+q:Nat):Int)by omega,s1,zC,s2,zC,zC,r1,zC,r2,zC,r3,zC]
  ·simp only [zK];rw [qD (by omega),zQ,show L.length-(L.length-K)=K by omega];simp
 refine⟨L.take K++x::L.drop K,?_,?_,?_⟩
 ·unfold Faj;simp only [zK,yO];rw [Go.OB.wrap_i64 (n:=((P.length+L.length:Nat):Int)-(P.length:Int)) (by omega) (by omega),qD (by omega),zQ,Go.OB.wrap_i64 (n:=((P.length+L.length+1:Nat):Int)-((P.length+L.length:Nat):Int)) (by omega) (by omega),dT (by omega),zU,M,zC,O,zC]
 ·have g:(L.take K++x::L.drop K).Perm (x::(L.take K++L.drop K)):=List.perm_middle;rw [List.take_append_drop]at g;exact g.trans (List.perm_append_singleton x L).symm
 ·unfold Srd;rw [List.pairwise_append,List.pairwise_cons];refine⟨List.Pairwise.sublist (List.take_sublist _ _) G,⟨λu Y=>?_,List.Pairwise.sublist (List.drop_sublist _ _) G⟩,λu Y v hv=>?_⟩
  ·obtain⟨i,hi,rfl⟩:=List.mem_iff_getElem.1 Y;rw [List.length_drop]at hi;rw [List.getElem_drop];have d:L[K+i]? =some L[K+i]:=gE (by omega);have q:=k4 (K+i) (by omega) (by omega);simp only [d,Bool.not_eq_false']at q;exact q
  ·obtain⟨i,hi,rfl⟩:=List.mem_iff_getElem.1 Y;rw [N]at hi;rw [List.getElem_take];rcases List.mem_cons.1 hv with rfl|hv
   ·have d:L[i]? =some L[i]:=gE (by omega);have q:=k3 i (by omega) hi;simp only [d,Bool.not_eq_true']at q;have p:=List.getElem_mem (l:=L) (n:=i) (by omega);have ab:L[i]≠v:=λ_=>by have:=A _ p;omega
    rcases H.tot L[i] v (z _ p).1 (z _ p).2 y.1 y.2 ab with h|h
    ·exact h
    ·rw [h]at q;cases q
   ·obtain⟨j,hj,rfl⟩:=List.mem_iff_getElem.1 hv;rw [List.length_drop]at hj;rw [List.getElem_drop];exact B i (K+j) (by omega) (by omega) (by omega)
end
section
variable {pr:Int->Int->Bool}{c0:List fB}{c1:Book}{n:Int}
theorem Srd.sub {l m:List Int}(h:Srd pr m)(a:l.Sublist m):Srd pr l:=List.Pairwise.sublist a h
theorem aRp: ∀{l:List Int}{v:Int},Srd pr l->l.getLast? =some v-> ∀x∈l,x=v\/pr x v=true
 | [],_,_,h,_,_=>by cases h
 | [a],v,_,h,x,c=>by
  obtain rfl:a=v:=by simpa using h
  exact .inl (mS.1 c)
 |a::_::l,v,d,h,x,c=>by
  obtain⟨e,f⟩:=List.pairwise_cons.1 d;rw [List.getLast?_cons_cons]at h;rcases List.mem_cons.1 c with rfl|c
  ·exact .inr (e v (List.mem_of_getLast? h))
  ·exact aRp f h x c
theorem srd_head: ∀{l:List Int}{u:Int},Srd pr l->l.head? =some u-> ∀y∈l,y=u\/pr u y=true
 | [],_,_,h,_,_=>by cases h
 |a::l,u,c,h,y,b=>by
  obtain rfl:a=u:=by simpa using h
  rcases List.mem_cons.1 b with rfl|b
  ·exact .inl rfl
  ·exact .inr ((List.pairwise_cons.1 c).1 y b)
theorem cut_less (H:aGm pr c0 c1 n) {L1 L2 m o:List Int} (t:InR n (L1++L2)) (w:InR n (m++o)) (P:Srd pr (L1++L2)) (Q:Srd pr (m++o)) (z: ∀u∈m++o,∀v∈L1++L2,v<u)
  (R: ∀u v,L1.getLast? =some v->o.head? =some u->pr u v=false) (S: ∀u v,m.getLast? =some u->L2.head? =some v->pr u v=true): ∀x∈L1++m,∀y∈L2++o,pr x y=true:=by
 obtain⟨C,D,E⟩:=List.pairwise_append.1 P;obtain⟨F,G,I⟩:=List.pairwise_append.1 Q;have j: ∀{A B:List Int}{u v:Int},InR n A->InR n B->Srd pr A->Srd pr B->A.getLast? =some u->B.head? =some v->pr u v=true-> ∀x∈A,∀y∈B,pr x y=true:=by
  intro A B u v K L T X g i p x b y c;have q:=K u (List.mem_of_getLast? g);have k:=L v (List.mem_of_head? i);have s:=K x b;have M:=L y c;have N:pr x v=true:=by
   rcases aRp T g x b with rfl|h
   ·exact p
   ·exact H.tr _ _ _ s.1 s.2 q.1 q.2 k.1 k.2 h p
  rcases srd_head X i y c with rfl|h
  ·exact N
  ·exact H.tr _ _ _ s.1 s.2 k.1 k.2 M.1 M.2 N h
 have d: ∀{A:List Int}{x:Int},x∈A-> ∃u,A.getLast? =some u:=λ {A x} b=>by
  cases h:A.getLast? with
  |some u=>exact⟨u,rfl⟩
  |none=>rw [List.getLast?_eq_none_iff]at h;subst h;cases b
 have f: ∀{A:List Int}{x:Int},x∈A-> ∃u,A.head? =some u:=λ {A x} b=>by
  cases A with
  |nil=>cases b
  |cons a l=>exact⟨a,rfl⟩
 intro x b y c;rcases mA.1 b with b|b<;>rcases mA.1 c with c|c
 ·exact E x b y c
 ·obtain⟨v,i⟩:=d b;obtain⟨u,g⟩:=f c;have mv:=List.mem_of_getLast? i;have O:=List.mem_of_head? g;have k:=t.l v mv;have q:=w.r u O;refine j t.l w.r C G i g ?_ x b y c;have J:v≠u:=λ_=>by
   have:=z u (mA.2 (.inr O)) v (mA.2 (.inl mv));omega
  rcases H.tot v u k.1 k.2 q.1 q.2 J with h|h
  ·exact h
  ·rw [R u v i g]at h;cases h
 ·obtain⟨u,g⟩:=d b;obtain⟨v,i⟩:=f c;exact j w.l t.r F D g i (S u v g i) x b y c
 ·exact I x b y c
set_option maxHeartbeats 4000000 in
theorem merge_ok (H:aGm pr c0 c1 n): ∀(k:Nat) (P L R T:List Int),InR n L->InR n R->Srd pr L->Srd pr R->(∀u∈R,∀v∈L,v<u)->L.length≠0->R.length≠0->P.length+L.length+R.length+T.length<=100000->L.length+R.length<=k->
  ∃S,Fah k (P++L++R++T) (P.length:Int) ((P.length+L.length:Nat):Int) ((P.length+L.length+R.length:Nat):Int) c0 c1=some (P++S++T)/\S.Perm (L++R)/\Srd pr S:=by
 intro k
 induction k with
 |zero=>intro P L R T _ _ _ _ _ f _ _ o;omega
 |succ k ih=>
  intro P L R T F G N O t ak al hn D;show ∃S,Faj (Fah k) (P++L++R++T) _ _ _ c0 c1=some (P++S++T)/\_
  by_cases l1:L.length=1
  ·obtain⟨x,rfl⟩:=List.length_eq_one_iff.1 l1;obtain⟨S,f,o,E⟩:=merge1 H (Fah k) P x R T (F x (mS.2 rfl)) G O (λu w=>t u w x (mS.2 rfl)) (by omega) (a:=(P.length:Int)) (m:=((P.length+1:Nat):Int)) (b:=((P.length+1+R.length:Nat):Int)) rfl rfl rfl;exact⟨S,by rw [show P++[x]++R++T=P++x::(R++T)by simp];exact f,o,E⟩
  by_cases r1:R.length=1
  ·obtain⟨x,rfl⟩:=List.length_eq_one_iff.1 r1;obtain⟨S,f,o,E⟩:=merge2 H (Fah k) P L x T (G x (mS.2 rfl)) F N (λv A=>t x (mS.2 rfl) v A) (by omega) (by omega) (a:=(P.length:Int)) (m:=((P.length+L.length:Nat):Int)) (b:=((P.length+L.length+1:Nat):Int)) rfl rfl rfl;exact⟨S,by rw [show P++L++[x]++T=P++L++x::T by simp];exact f,o,E⟩
  have ab:=List.pairwise_iff_getElem.1 N;have ac:=List.pairwise_iff_getElem.1 O;obtain⟨mid,ad⟩: ∃mid,mid=(P.length+(P.length+L.length+R.length))/2:=⟨_,rfl⟩;obtain⟨g,i,B⟩: ∃g i:Nat,if mid<P.length+L.length then(g=mid+(P.length+L.length)-(P.length+L.length+R.length)/\i=mid)else(g=P.length/\i=P.length+L.length):=by
   by_cases c:mid<P.length+L.length
   ·exact⟨_,_,by rw [if_pos c];exact⟨rfl,rfl⟩⟩
   ·exact⟨_,_,by rw [if_neg c];exact⟨rfl,rfl⟩⟩
  have I:P.length<=g/\g<=i/\i<=P.length+L.length/\i<=mid/\mid<=g+R.length:=by
   split at B<;>omega
  have Q:(g=P.length\/mid=g+R.length)/\(i=P.length+L.length\/i=mid):=by
   split at B<;>omega
  have p: ∀c,g<=c->c<i->c-P.length<L.length/\mid-1-c<R.length:=by
   intro c f o;omega
  obtain⟨K,k1,k2,k3,k4⟩:=aKl (λc=>match L[c-P.length]?,R[mid-1-c]? with |some v,some u=> !pr u v|_,_=>false) (i-g) g i (Nat.le_refl _) I.2.1 (λc c' f o E h4=>by
   obtain⟨C,a2⟩:=p c f (by omega);obtain⟨b1,b2⟩:=p c' (by omega) E;simp only [gE C,gE a2,Bool.not_eq_false']at h4;simp only [gE b1,gE b2,Bool.not_eq_false'];have q1:=F _ (List.getElem_mem C);have J:=G _ (List.getElem_mem a2);have q3:=F _ (List.getElem_mem b1);have q4:=G _ (List.getElem_mem b2);have w1:=ab (c-P.length) (c'-P.length) C b1 (by omega);have w2:=ac (mid-1-c') (mid-1-c) b2 a2 (by omega);exact H.tr _ _ _ q4.1 q4.2 J.1 J.2 q3.1 q3.2 w2 (H.tr _ _ _ J.1 J.2 q1.1 q1.2 q3.1 q3.2 h4 w1))
  have M: ∀c (f:g<=c) (o:c<i),∃z,Fad (R[mid-1-c]'(p c f o).2) (L[c-P.length]'(p c f o).1) c0 c1=some z/\(!decide (z<0))=decide (c<K):=by
   intro c f o;obtain⟨C,a2⟩:=p c f o;have q1:=F _ (List.getElem_mem C);have J:=G _ (List.getElem_mem a2);obtain⟨z,z1,z2⟩:=H.cmp R[mid-1-c] L[c-P.length] q1.1 (t _ (List.getElem_mem a2) _ (List.getElem_mem C)) J.2;refine⟨z,z1,?_⟩;rw [z2]
   by_cases D:c<K
   ·have:=k3 c f D;simp only [gE C,gE a2]at this;rw [this,dT D]
   ·have:=k4 c (by omega) o;simp only [gE C,gE a2]at this;rw [this,qD D]
  have av:Fei (P++L++R++T) c0 c1 ((mid+(P.length+L.length):Nat)-1:Int) ((g:Int),(i:Int))=some (K:Int):=by
   unfold Fei gY;refine aJj K g i _ ?_ ?_ (i-g) g i FU (Nat.le_refl _) (Nat.le_refl _) k1 k2 (Nat.le_refl _) (aAv (by omega))
   ·intro kk lo hi _ f o E h4;obtain⟨e1,e2,e3,e4,e5⟩:=aJe (lo:=lo) (hi:=hi) (by omega);obtain⟨C,a2⟩:=p ((lo+hi)/2) (by omega) (by omega);obtain⟨z,z1,z2⟩:=M ((lo+hi)/2) (by omega) (by omega);have ea:at' (P++L++R++T) (((lo+hi)/2:Nat):Int)=some (L[(lo+hi)/2-P.length]'C):=by
     rw [show P++L++R++T=P++L++(R++T)by simp];exact aJb P L (R++T) C (by omega)
    have eb:at' (P++L++R++T) (((mid+(P.length+L.length):Nat):Int)-1-(((lo+hi)/2:Nat):Int))=some (R[mid-1-(lo+hi)/2]'a2):=aJb (P++L) R T a2 (by rw [List.length_append];omega);simp only [zK];rw [dT (show(lo:Int)<(hi:Int)by omega),zU,e1,e2,e3,zC,e4,Go.OB.wrap_i64 (n:=((mid+(P.length+L.length):Nat):Int)-1-(((lo+hi)/2:Nat):Int)) (by omega) (by omega),eb,zC,ea,zC,z1,zC,z2,yX]
    by_cases D:(lo+hi)/2<K
    ·rw [if_pos D,if_pos D,e5]
    ·rw [if_neg D,if_neg D]
   ·intro kk;simp only [zK];rw [qD (by omega),zQ]
  -- the two cuts
  obtain⟨L1,L2,rfl,_,ay⟩:=aCg (l:=L) (j:=K-P.length) (by omega);obtain⟨d,e,rfl,_,az⟩:=aCg (l:=R) (j:=mid-K) (by omega);simp only [List.length_append]at ay az ak al l1 r1 hn D ad B I Q;have a6: ∀x∈L1++d,∀y∈L2++e,pr x y=true:=by
   refine cut_less H F G N O t (λu v A w=>?_) λu v w A=>?_
   ·have a7:=List.length_pos_of_mem (List.mem_of_getLast? A);have a8:=List.length_pos_of_mem (List.mem_of_head? w);have c:g<K:=by omega
    have q:=k3 (K-1) (by omega) (by omega);rw [List.getLast?_eq_getElem?]at A;rw [List.head?_eq_getElem?]at w;rw [List.getElem?_append_left (by omega),List.getElem?_append_right (by omega),show K-1-P.length=L1.length-1 by omega,show mid-1-(K-1)-d.length=0 by omega,A,w]at q;simpa using q
   ·have a7:=List.length_pos_of_mem (List.mem_of_head? A);have a8:=List.length_pos_of_mem (List.mem_of_getLast? w);have c:K<i:=by omega
    have q:=k4 K (Nat.le_refl _) c;rw [List.getLast?_eq_getElem?]at w;rw [List.head?_eq_getElem?]at A;rw [List.getElem?_append_right (by omega),List.getElem?_append_left (by omega),show K-P.length-L1.length=0 by omega,show mid-1-K=d.length-1 by omega,A,w]at q;simpa using q
  clear k3 k4 M p ab ac;have ba: ∃s,s.Perm (L1++d)/\Srd pr s/\(gJ (decide ((P.length:Int)<(K:Int))&&decide ((K:Int)<(mid:Int))) (gB (Fah k (P++L1++d++(L2++e++T)) (P.length:Int) (K:Int) (mid:Int) c0 c1) λx=>some x) (some (P++L1++d++(L2++e++T))))=some (P++s++(L2++e++T)):=by
   by_cases c:P.length<K/\K<mid
   ·obtain⟨s,f,o,E⟩:=ih P L1 d (L2++e++T) F.l G.l (N.sub (List.sublist_append_left _ _)) (O.sub (List.sublist_append_left _ _)) (λu w v A=>t u (mA.2 (.inl w)) v (mA.2 (.inl A))) (by omega) (by omega) (by simp only [List.length_append];omega) (by omega);rw [show P.length+L1.length=K by omega,show K+d.length=mid by omega]at f;exact⟨s,o,E,by rw [dT (by omega),dT (by omega),Bool.and_self,zU,f,zC]⟩
   ·refine⟨L1++d,List.Perm.refl _,?_,?_⟩
    ·by_cases c1:L1.length=0
     ·rw [List.eq_nil_of_length_eq_zero c1,List.nil_append];exact O.sub (List.sublist_append_left _ _)
     ·have c2:d.length=0:=by omega
      rw [List.eq_nil_of_length_eq_zero c2,List.append_nil];exact N.sub (List.sublist_append_left _ _)
    ·have:(decide ((P.length:Int)<(K:Int))&&decide ((K:Int)<(mid:Int)))=false:=by
      rw [Bool.and_eq_false_iff,decide_eq_false_iff_not,decide_eq_false_iff_not];omega
     rw [this,zQ];simp
  obtain⟨s,p1,q1,f1⟩:=ba;have hl:s.length=L1.length+d.length:=by rw [p1.length_eq,List.length_append]
  have bc: ∃X,X.Perm (L2++e)/\Srd pr X/\(gJ (decide ((mid:Int)<((P.length+L1.length+d.length+L2.length:Nat):Int))&&decide (((P.length+L1.length+d.length+L2.length:Nat):Int)<((P.length+L1.length+d.length+L2.length+e.length:Nat):Int))) (gB (Fah k (P++s++(L2++e++T)) (mid:Int) ((P.length+L1.length+d.length+L2.length:Nat):Int) ((P.length+L1.length+d.length+L2.length+e.length:Nat):Int) c0 c1) λx=>some x) (some (P++s++(L2++e++T))))=some (P++s++X++T):=by
   by_cases c:L2.length≠0/\e.length≠0
   ·obtain⟨X,f,o,E⟩:=ih (P++s) L2 e T F.r G.r (N.sub (List.sublist_append_right _ _)) (O.sub (List.sublist_append_right _ _)) (λu w v A=>t u (mA.2 (.inr w)) v (mA.2 (.inr A))) c.1 c.2 (by simp only [List.length_append];omega) (by omega);rw [List.length_append,show P.length+s.length=mid by omega,show mid+L2.length=P.length+L1.length+d.length+L2.length by omega]at f;refine⟨X,o,E,?_⟩;rw [dT (by omega),dT (by omega),Bool.and_self,zU,show P++s++(L2++e++T)=P++s++L2++e++T by simp,f,zC]
   ·refine⟨L2++e,List.Perm.refl _,?_,?_⟩
    ·by_cases c1:L2.length=0
     ·rw [List.eq_nil_of_length_eq_zero c1,List.nil_append];exact O.sub (List.sublist_append_right _ _)
     ·have c2:e.length=0:=by omega
      rw [List.eq_nil_of_length_eq_zero c2,List.append_nil];exact N.sub (List.sublist_append_right _ _)
    ·have:(decide ((mid:Int)<((P.length+L1.length+d.length+L2.length:Nat):Int))&&decide (((P.length+L1.length+d.length+L2.length:Nat):Int)<((P.length+L1.length+d.length+L2.length+e.length:Nat):Int)))=false:=by
      rw [Bool.and_eq_false_iff,decide_eq_false_iff_not,decide_eq_false_iff_not];omega
     rw [this,zQ];simp
  obtain⟨X,p2,J,f2⟩:=bc;refine⟨s++X,?_,?_,?_⟩
  ·obtain⟨e1,e2,e3,e4,-⟩:=aJe (lo:=P.length) (hi:=P.length+(L1++L2).length+(d++e).length) (by simp only [List.length_append];omega);have Y:(P.length+(P.length+(L1++L2).length+(d++e).length))/2=mid:=by simp only [List.length_append];omega
   rw [Y]at e3 e4;have ae:(gJ (decide ((K:Int)<((P.length+(L1++L2).length:Nat):Int))&&decide (((P.length+(L1++L2).length:Nat):Int)<((P.length+L1.length+d.length+L2.length:Nat):Int))) (gB (Fbk (P++(L1++L2)++(d++e)++T) (K:Int) ((P.length+(L1++L2).length:Nat):Int) ((P.length+L1.length+d.length+L2.length:Nat):Int) c0 c1) λx=>some x) (some (P++(L1++L2)++(d++e)++T)))=some (P++L1++d++(L2++e++T)):=by
    by_cases c:L2.length≠0/\d.length≠0
    ·have h:=rot_eq (P++L1) L2 d (e++T) c.1 c.2 (by simp only [List.length_append];omega) (a:=(K:Int)) (m:=((P.length+(L1++L2).length:Nat):Int)) (b:=((P.length+L1.length+d.length+L2.length:Nat):Int)) (by simp only [List.length_append];omega) (by simp only [List.length_append];omega) (by simp only [List.length_append];omega) c0 c1;rw [dT (by simp only [List.length_append];omega),dT (by simp only [List.length_append];omega),Bool.and_self,zU,show P++(L1++L2)++(d++e)++T=P++L1++L2++d++(e++T)by simp,h,zC];simp
    ·have:(decide ((K:Int)<((P.length+(L1++L2).length:Nat):Int))&&decide (((P.length+(L1++L2).length:Nat):Int)<((P.length+L1.length+d.length+L2.length:Nat):Int)))=false:=by
      rw [Bool.and_eq_false_iff,decide_eq_false_iff_not,decide_eq_false_iff_not];simp only [List.length_append];omega
     rw [this,zQ]
     by_cases c1:L2.length=0
     ·rw [List.eq_nil_of_length_eq_zero c1];simp
     ·have c2:d.length=0:=by omega
      rw [List.eq_nil_of_length_eq_zero c2];simp
   have af:(gG (decide ((mid:Int)<((P.length+(L1++L2).length:Nat):Int))) λx=>gJ x (gG (IntKind.i64.wrap (((mid+(P.length+(L1++L2).length):Nat):Int)-((P.length+(L1++L2).length+(d++e).length:Nat):Int))) λy=>some (y,(mid:Int))) (some ((P.length:Int),((P.length+(L1++L2).length:Nat):Int))))=some ((g:Int),(i:Int)):=by
    simp only [zK,List.length_append]
    by_cases c:mid<P.length+(L1.length+L2.length)
    ·rw [if_pos c]at B;rw [dT (by omega),zU,Go.OB.wrap_i64 (by omega) (by omega)]
     congr 2<;>omega
    ·rw [if_neg c]at B;rw [qD (by omega),zQ]
     congr 2<;>omega
   have ag:IntKind.i64.wrap (((mid+(P.length+(L1++L2).length):Nat):Int)-(K:Int))=((P.length+L1.length+d.length+L2.length:Nat):Int):=by
    simp only [List.length_append];rw [Go.OB.wrap_i64 (by omega) (by omega)];omega
   have bd:IntKind.i64.wrap ((mid:Int)+((P.length+(L1++L2).length:Nat):Int))=((mid+(P.length+(L1++L2).length):Nat):Int):=by
    simp only [List.length_append];rw [Go.OB.wrap_i64 (by omega) (by omega)];omega
   have be:((P.length+(L1++L2).length+(d++e).length:Nat):Int)=((P.length+L1.length+d.length+L2.length+e.length:Nat):Int):=by simp only [List.length_append];omega
   unfold Faj;rw [yO];simp only [zK]at af⊢;rw [Go.OB.wrap_i64 (n:=((P.length+(L1++L2).length:Nat):Int)-(P.length:Int)) (by omega) (by omega),qD (by simp only [List.length_append];omega),zQ,yO,Go.OB.wrap_i64 (n:=((P.length+(L1++L2).length+(d++e).length:Nat):Int)-((P.length+(L1++L2).length:Nat):Int)) (by omega) (by omega),qD (by simp only [List.length_append];omega),zQ,e1,e2,e3,zC,e4,bd,af,zC];simp only [dW,zC];rw [Go.OB.wrap_i64 (n:=((mid+(P.length+(L1++L2).length):Nat):Int)-1) (by simp only [List.length_append];omega) (by simp only [List.length_append];omega),av,zC,ag,ae,zC,f1,zC,be,f2];simp only [List.append_assoc]
  ·exact(p1.append p2).trans (by
    have:(L1++d++(L2++e)).Perm (L1++L2++(d++e)):=by
     rw [List.append_assoc,List.append_assoc];refine List.Perm.append_left L1 ?_;rw [<-List.append_assoc,<-List.append_assoc];exact List.Perm.append_right e List.perm_append_comm
    exact this)
  ·unfold Srd;rw [List.pairwise_append];exact⟨q1,J,λx hx y hy=>a6 x (p1.mem_iff.1 hx) y (p2.mem_iff.1 hy)⟩
end
section
variable {pr:Int->Int->Bool}{c0:List fB}{c1:Book}{n:Int}
theorem bubble (H:aGm pr c0 c1 n) (P S:List Int) (x:Int) (T:List Int) (s:0<=x/\x<n) (w:InR n S) (C:Srd pr S) (y: ∀u∈S,u<x) (hn:P.length+S.length+T.length<=100000):
  ∃D,Fbh (P.length:Int) c0 c1 (((P.length+S.length:Nat):Int),P++S++x::T)=some (P++D++T)/\D.Perm (S++[x])/\Srd pr D:=by
 have z:=List.pairwise_iff_getElem.1 C;obtain⟨K,_,_,R,X⟩:=aKl (λi=>match S[i]? with |some u=> !pr x u|none=>false) S.length 0 S.length (by omega) (by omega) (λc B _ p A Y=>by
  have b:S[c]? =some S[c]:=gE (by omega);have E:S[B]? =some S[B]:=gE A;simp only [b,Bool.not_eq_false']at Y;simp only [E,Bool.not_eq_false'];have q1:=w S[c] (List.getElem_mem (by omega));have q2:=w S[B] (List.getElem_mem A);exact H.tr _ _ _ s.1 s.2 q1.1 q1.2 q2.1 q2.2 Y (z c B (by omega) A p))
 have f: ∀(i:Nat) (h:i<S.length),∃c,Fad x S[i] c0 c1=some c/\decide (c<0)= !decide (i<K):=by
  intro i h;have q:=w S[i] (List.getElem_mem h);obtain⟨c,p,A⟩:=H.cmp x S[i] q.1 (y _ (List.getElem_mem h)) s.2;refine⟨c,p,?_⟩;rw [A];have b:S[i]? =some S[i]:=gE h
  by_cases F:i<K
  ·have:=R i (by omega) F;simp only [b,Bool.not_eq_true']at this;rw [this,dT F];rfl
  ·have:=X i (by omega) h;simp only [b,Bool.not_eq_false']at this;rw [this,qD F];rfl
 have G:(S.take K).length=K:=by rw [List.length_take];omega
 have I:Fbh (P.length:Int) c0 c1 (((P.length+S.length:Nat):Int),P++S++x::T)=some (P++(S.take K++x::S.drop K)++T):=by
  unfold Fbh;refine xO (λt=>(((P.length+S.length:Nat):Int)-(t:Int),P++S.take (S.length-t)++x::(S.drop (S.length-t)++T))) (S.length-K) (by omega) (by simp) (λk t h=>?_) (λk=>?_)
  ·obtain⟨q,hq⟩: ∃q,S.length-t=q+1:=⟨S.length-t-1,by omega⟩;have J:S.length-(t+1)=q:=by omega
   have d:q<S.length:=by omega
   have hd:S.drop q=S[q]::S.drop (q+1):=List.drop_eq_getElem_cons d;have a:(P++S.take q).length=P.length+q:=by rw [List.length_append,List.length_take];omega
   have b:P++S.take (q+1)++x::(S.drop (q+1)++T)=(P++S.take q)++S[q]::([]++x::(S.drop (q+1)++T)):=by
    simp only [bF (gE d),List.append_assoc,List.cons_append,List.nil_append]
   have E:P++S.take q++x::(S.drop q++T)=(P++S.take q)++x::([]++S[q]::(S.drop (q+1)++T)):=by
    simp only [hd,List.nil_append,List.cons_append]
   have m:((P.length+S.length:Nat):Int)-(t:Int)=((P.length+q:Nat):Int)+1:=by omega
   have L:((P.length+S.length:Nat):Int)-((t+1:Nat):Int)=((P.length+q:Nat):Int):=by omega
   obtain⟨s1,s2,_,_,_⟩:=uS (P++S.take q) S[q] [] x (S.drop (q+1)++T) (i:=((P.length+q:Nat):Int)) (j:=((P.length+q:Nat):Int)+1) (by rw [a]) (by rw [a,List.length_nil];omega);have r1:set' ((P++S.take q)++S[q]::([]++x::(S.drop (q+1)++T))) (((P.length+q:Nat):Int)+1) S[q]=some ((P++S.take q)++S[q]::([]++S[q]::(S.drop (q+1)++T))):=by
    have:=aHl (P++S.take q++[S[q]]) x S[q] (S.drop (q+1)++T) (i:=((P.length+q:Nat):Int)+1) (by rw [List.length_append,a,List.length_singleton];omega);simp only [List.append_assoc,List.cons_append,List.nil_append]at this⊢;exact this
   have r2:at' ((P++S.take q)++S[q]::([]++S[q]::(S.drop (q+1)++T))) ((P.length+q:Nat):Int)=some S[q]:=aRs (P++S.take q) S[q] _ (by rw [a]);have r3:set' ((P++S.take q)++S[q]::([]++S[q]::(S.drop (q+1)++T))) ((P.length+q:Nat):Int) x=some ((P++S.take q)++x::([]++S[q]::(S.drop (q+1)++T))):=aHl (P++S.take q) S[q] x _ (by rw [a]);obtain⟨c,M,z2⟩:=f q d;simp only [zK];rw [hq,J,b,E,m,L,dT (show(P.length:Int)<((P.length+q:Nat):Int)+1 by omega),zU,Go.OB.wrap_i64 (n:=((P.length+q:Nat):Int)+1-1) (by omega) (by omega),show((P.length+q:Nat):Int)+1-1=((P.length+q:Nat):Int)by omega,s2,zC,s1,zC,M,zC,z2,qD (show¬q<K by omega),zC,Bool.not_false,zU,zC,zC,zC,r1,zC,r2,zC,r3,zC]
  ·rw [show S.length-(S.length-K)=K by omega];have g:some (P++S.take K++x::(S.drop K++T))=some (P++(S.take K++x::S.drop K)++T):=by simp
   simp only [zK]
   by_cases h0:K=0
   ·rw [qD (show¬(P.length:Int)<((P.length+S.length:Nat):Int)-((S.length-K:Nat):Int)by omega),zQ,zC,zQ];exact g
   ·obtain⟨q,rfl⟩: ∃q,K=q+1:=⟨K-1,by omega⟩;have d:q<S.length:=by omega
    have a:(P++S.take q).length=P.length+q:=by rw [List.length_append,List.length_take];omega
    have b:P++S.take (q+1)++x::(S.drop (q+1)++T)=(P++S.take q)++S[q]::([]++x::(S.drop (q+1)++T)):=by
     simp only [bF (gE d),List.append_assoc,List.cons_append,List.nil_append]
    have m:((P.length+S.length:Nat):Int)-((S.length-(q+1):Nat):Int)=((P.length+q:Nat):Int)+1:=by omega
    obtain⟨s1,s2,-⟩:=uS (P++S.take q) S[q] [] x (S.drop (q+1)++T) (i:=((P.length+q:Nat):Int)) (j:=((P.length+q:Nat):Int)+1) (by rw [a]) (by rw [a,List.length_nil];omega);obtain⟨c,M,z2⟩:=f q d;rw [m,dT (show(P.length:Int)<((P.length+q:Nat):Int)+1 by omega),zU,Go.OB.wrap_i64 (n:=((P.length+q:Nat):Int)+1-1) (by omega) (by omega),show((P.length+q:Nat):Int)+1-1=((P.length+q:Nat):Int)by omega];rw [b,s2,zC,s1,zC,M,zC,z2,dT (show q<q+1 by omega),zC,Bool.not_true,zQ,<-b];exact g
 refine⟨S.take K++x::S.drop K,I,?_,?_⟩
 ·have p:(S.take K++x::S.drop K).Perm (x::(S.take K++S.drop K)):=List.perm_middle;rw [List.take_append_drop]at p;exact p.trans (List.perm_append_singleton x S).symm
 ·unfold Srd;rw [List.pairwise_append,List.pairwise_cons];refine⟨List.Pairwise.sublist (List.take_sublist _ _) C,⟨λu N=>?_,List.Pairwise.sublist (List.drop_sublist _ _) C⟩,λu N v O=>?_⟩
  ·obtain⟨i,hi,rfl⟩:=List.mem_iff_getElem.1 N;rw [List.length_drop]at hi;rw [List.getElem_drop];have b:S[K+i]? =some S[K+i]:=gE (by omega);have q:=X (K+i) (by omega) (by omega);simp only [b,Bool.not_eq_false']at q;exact q
  ·obtain⟨i,hi,rfl⟩:=List.mem_iff_getElem.1 N;rw [G]at hi;rw [List.getElem_take];rcases List.mem_cons.1 O with rfl|O
   ·have b:S[i]? =some S[i]:=gE (by omega);have q:=R i (by omega) hi;simp only [b,Bool.not_eq_true']at q;have o:=List.getElem_mem (l:=S) (n:=i) (by omega);have Q:S[i]≠v:=λ_=>by have:=y _ o;omega
    rcases H.tot S[i] v (w _ o).1 (w _ o).2 s.1 s.2 Q with h|h
    ·exact h
    ·rw [h]at q;cases q
   ·obtain⟨j,hj,rfl⟩:=List.mem_iff_getElem.1 O;rw [List.length_drop]at hj;rw [List.getElem_drop];exact z i (K+j) (by omega) (by omega) (by omega)
theorem insert_ok (H:aGm pr c0 c1 n) (P L T:List Int) (z:InR n L) (C:L.Pairwise (· < ·)) (J:P.length+L.length+T.length<=100000):
  ∃S,Faq (P++L++T) (P.length:Int) ((P.length+L.length:Nat):Int) c0 c1=some (P++S++T)/\S.Perm L/\Srd pr S:=by
 unfold Faq Fhr;simp only [zK];rw [Go.OB.wrap_i64 (n:=(P.length:Int)+1) (by omega) (by omega)];have v: ∃r,gY (λ(m:Int×List Int->Option (List Int)) (x:Int×List Int)=>match x with
   |(b,d)=>gJ (decide (b<((P.length+L.length:Nat):Int))) (gB (Fbh (P.length:Int) c0 c1 (b,d)) λf=>m (IntKind.i64.wrap (b+1),f)) (some d)) ((P.length:Int)+1,P++L++T)=some r/\ ∃S,r=P++S++T/\S.Perm L/\Srd pr S:=by
  cases hLe:L with
  |nil=>
   refine⟨P++[]++T,?_,[],rfl,List.Perm.refl _,List.Pairwise.nil⟩;refine xO (λ_=>((P.length:Int)+1,P++[]++T)) 0 (by decide) rfl (λk i h=>absurd h (by omega)) (λk=>?_);show gJ (decide ((P.length:Int)+1<((P.length+([]:List Int).length:Nat):Int))) _ _=_;rw [qD (by simp only [List.length_nil];omega),zQ]
  |cons _ _=>
   rw [<-hLe];have o:0<L.length:=by rw [hLe];simp
   refine uF (λg=> ∃(t:Nat) (S:List Int),t<L.length/\g=(((P.length+(t+1):Nat):Int),P++S++(L.drop (t+1)++T))/\S.Perm (L.take (t+1))/\Srd pr S) (λg=>(P.length+L.length+1)-g.1.toNat) _ ?_ ⟨0,L.take 1,o,by
    simp only [Prod.mk.injEq];refine⟨by omega,?_⟩;rw [show P++L.take 1++(L.drop (0+1)++T)=P++(L.take 1++L.drop 1)++T by simp only [List.append_assoc,Nat.zero_add],List.take_append_drop],List.Perm.refl _,by
    have:(L.take 1).length<=1:=by rw [List.length_take];omega
    match hq:L.take 1,this with
    | [],_=>exact List.Pairwise.nil
    | [_],_=>exact List.pairwise_singleton _ _⟩ (by simp only;omega)
   rintro g ⟨t,S,_,rfl,j,p⟩;have q:S.length=t+1:=by rw [j.length_eq,List.length_take];omega
   by_cases e:t+1=L.length
   ·right
    refine⟨P++S++(L.drop (t+1)++T),⟨S,by rw [e,List.drop_length,List.nil_append],by rw [e,List.take_length]at j;exact j,p⟩,λk=>?_⟩;simp only;rw [qD (by omega),zQ]
   ·left
    have c:t+1<L.length:=by omega
    have hd:L.drop (t+1)=L[t+1]::L.drop (t+1+1):=List.drop_eq_getElem_cons c;have s:=List.pairwise_iff_getElem.1 C;obtain⟨A,B,D,E⟩:=bubble H P S L[t+1] (L.drop (t+1+1)++T) (z _ (List.getElem_mem c)) (λu w=>z u (List.mem_of_mem_take (j.mem_iff.1 w))) p (λu w=>by
     obtain⟨i,hi,rfl⟩:=List.mem_iff_getElem.1 (j.mem_iff.1 w);rw [List.length_take]at hi;rw [List.getElem_take];exact s i (t+1) (by omega) c (by omega)) (by rw [q,List.length_append,List.length_drop];omega)
    refine⟨(((P.length+(t+1+1):Nat):Int),P++A++(L.drop (t+1+1)++T)),⟨t+1,A,c,rfl,?_,E⟩,by simp only;omega,λk=>?_⟩
    ·refine D.trans ?_;rw [bF (gE c)];exact j.append_right _
    ·simp only;rw [q]at B;rw [dT (by omega),zU,hd,List.cons_append,B,zC,Go.OB.wrap_i64 (n:=((P.length+(t+1):Nat):Int)+1) (by omega) (by omega)]
     congr 2
 obtain⟨r,F,S,rfl,G,I⟩:=v;exact⟨S,F,G,I⟩
end
end Go.Lf
