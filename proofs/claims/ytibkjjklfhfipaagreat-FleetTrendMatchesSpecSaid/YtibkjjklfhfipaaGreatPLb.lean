/- Laws that the claim stands on; no condition beyond those stated. -/
import Derived.Test.YtibkjjklfhfipaaGreatLfP
namespace Go.Lf
section
variable {α β γ σ:Type}
theorem zD (a:α)(k:α->Option β):gJ a k=k a:=Eq.trans rfl rfl
theorem zB (a:α)(k:α->Option β):gG (some a) k=k a:=Eq.trans rfl rfl
theorem xA (k:γ->Option β)(m:(γ->Option β)->Option β):eY k m=m k:=Eq.trans rfl rfl
theorem zT (x y:Option β):gQ true x y=x:=Eq.trans rfl rfl
theorem zN (x y:Option β):gQ false x y=y:=Eq.trans rfl rfl
theorem aJw (x y:Bool):gQ x (some x) (some y)=some (x||y):=by cases x<;>rfl
theorem aB (x y:Bool):gQ x (some true) (some y)=some (x||y):=by cases x<;>rfl
theorem uV (x y:Bool):gQ x (some y) (some false)=some (x&&y):=by cases x<;>rfl
theorem iteB_id (x:Bool):gQ x (some true) (some false)=some x:=by cases x<;>rfl
theorem xB (p:Prop) [Decidable p] (x y:Option β):gQ (decide p) x y=if p then x else y:=by by_cases h:p<;>simp [h,gQ]
theorem bG (b:Bool)(x y:Option β):gQ b x y=if b=true then x else y:=by cases b<;>rfl
theorem yF {l:List α}{i:Nat}{x:α}(h:l[i]? =some x):at' l (i:Int)=some x:=by unfold at';rw [if_pos (by omega),Int.toNat_natCast];exact h
theorem jA (l:List α)(i:Nat):at' l (i:Int)=l[i]? :=by unfold at';rw [if_pos (by omega),Int.toNat_natCast]
def aEm (f:Nat->α->σ->σ ⊕ Option β)(fin:σ->Option β):List α->Nat->σ->Option β
 | [],_,s=>fin s
 |x::l,i,s=>match f i x s with
  | .inl a=>aEm f fin l (i+1) a
  | .inr r=>r
theorem aKn {body:(γ->Option β)->γ->Option β}(enc:Nat->σ->γ)(l:List α)(f:Nat->α->σ->σ ⊕ Option β)(fin:σ->Option β)
  (h: ∀k i s x,l[i]? =some x->body k (enc i s)=match f i x s with | .inl a=>k (enc (i+1) a)| .inr r=>r)(b: ∀k s,body k (enc l.length s)=fin s):
  ∀(d i:Nat) (s:σ) (n:Nat),i+d=l.length->d<n->eQ body n (enc i s)=aEm f fin (l.drop i) i s
 |0,i,s,n,hd,c=>by
  obtain⟨m,rfl⟩: ∃m,n=m+1:=⟨n-1,by omega⟩;obtain rfl:i=l.length:=by omega
  rw [eQ,b,List.drop_length];rfl
 |d+1,i,s,n,hd,c=>by
  obtain⟨m,rfl⟩: ∃m,n=m+1:=⟨n-1,by omega⟩;have hi:i<l.length:=by omega
  rw [eQ,h _ i s l[i] (gE hi),List.drop_eq_getElem_cons hi,aEm]
  cases f i l[i] s with
  |inl a=>exact aKn enc l f fin h b d (i+1) a m (by omega) (by omega)
  |inr r=>rfl
theorem jF {n:Nat}(h:n<=9223372036854775807):n<FU:=by unfold FU;omega
theorem rG {body:(γ->Option β)->γ->Option β}(enc:Nat->σ->γ)(l:List α)(f:Nat->α->σ->σ ⊕ Option β)(fin:σ->Option β)(a:l.length<=9223372036854775807)
    (h: ∀k i s x,l[i]? =some x->body k (enc i s)=match f i x s with | .inl s'=>k (enc (i+1) s')| .inr r=>r)(b: ∀k s,body k (enc l.length s)=fin s)(s:σ):
    fB body (enc 0 s)=aEm f fin l 0 s:=by
 unfold fB;have:=aKn enc l f fin h b l.length 0 s FU (by omega) (jF a);rwa [List.drop_zero]at this
end
theorem fG {i n:Nat}(h:i<n)(a:n<=9223372036854775807):IntKind.i64.wrap ((i:Int)+1)=((i+1:Nat):Int):=by rw [Go.OB.wrap_i64 (by omega) (by omega)];omega
section
variable {α β γ σ:Type}
def eP (q:Nat->α->Option (Option β))(fin:Option β):List α->Nat->Option β
 | [],_=>fin
 |x::l,i=>match q i x with
  |some r=>r
  |none=>eP q fin l (i+1)
theorem aGq {f:Nat->α->Unit->Unit ⊕ Option β}{fin:Unit->Option β}(q:Nat->α->Option (Option β))(a: ∀i x,f i x ()=match q i x with |some r=> .inr r|none=> .inl ()):
  ∀(l:List α) (i:Nat),aEm f fin l i ()=eP q (fin ()) l i
 | [],i=>rfl
 |x::l,i=>by
  rw [aEm,eP,a]
  cases q i x with
  |none=>exact aGq q a l (i+1)
  |some r=>rfl
theorem yT {body:(Int->Option β)->Int->Option β}(l:List α)(q:Nat->α->Option (Option β))(fin:Option β)(b:l.length<=9223372036854775807)
  (h: ∀k (i:Nat) x,l[i]? =some x->i<l.length->body k (i:Int)=match q i x with |some r=>r|none=>k ((i+1:Nat):Int))(c: ∀k,body k (l.length:Int)=fin):fB body 0=eP q fin l 0:=by
 rw [<-aGq (f:=λi x _=>match q i x with |some r=> .inr r|none=> .inl ()) (fin:=λ_=>fin) q (λ_ _=>rfl)];refine rG (λ(i:Nat) (_:Unit)=>(i:Int)) l _ _ b (λk i s x a=>?_) (λk s=>c k) ();rw [h k i x a (gS.1 a).1]
 cases q i x<;>rfl
def aV (p:Nat->α->Bool):List α->Nat->Bool
 | [],_=>false
 |x::l,i=>p i x||aV p l (i+1)
theorem sH (p:Nat->α->Bool)(r fin:Option β): ∀(l:List α) (i:Nat),eP (λi x=>if p i x=true then some r else none) fin l i=if aV p l i=true then r else fin
 | [],i=>rfl
 |x::l,i=>by
  rw [eP,aV]
  cases hp:p i x with
  |true=>simp
  |false=>simp only [Bool.false_or,Bool.false_eq_true,if_false];exact sH p r fin l (i+1)
theorem uX (p:Nat->α->Bool): ∀(l:List α) (i:Nat),aV p l i=true↔ ∃j x,l[j]? =some x/\p (i+j) x=true
 | [],i=>by simp [aV]
 |x::l,i=>by
  rw [aV,Bool.or_eq_true,uX p l (i+1)];constructor
  ·rintro(h|⟨j,y,a,b⟩)
   ·exact⟨0,x,rfl,by simpa using h⟩
   ·exact⟨j+1,y,by simpa using a,by rwa [show i+(j+1)=i+1+j by omega]⟩
  ·rintro⟨j,y,a,b⟩
   cases j with
   |zero=>simp at a;subst a;exact .inl (by simpa using b)
   |succ j=>exact .inr ⟨j,y,by simpa using a,by rwa [show i+1+j=i+(j+1)by omega]⟩
theorem aKh {p q:Nat->α->Bool}: ∀(l:List α) (i:Nat),(∀j x,l[j]? =some x->p (i+j) x=q (i+j) x)->aV p l i=aV q l i
 | [],i,_=>rfl
 |x::l,i,h=>by
  have a:=h 0 x rfl;rw [Nat.add_zero]at a;have b:=aKh (p:=p) (q:=q) l (i+1) (λj y c=>by have:=h (j+1) y (by simpa using c);rwa [show i+(j+1)=i+1+j by omega]at this);rw [aV,aV,a,b]
theorem yH {i n:Nat}(h:i<n):decide ((i:Int)<(n:Int))=true:=dT (by omega)
theorem yJ (n:Nat):decide ((n:Int)<(n:Int))=false:=qD (by omega)
theorem aNx {s:Str}{i:Nat}{c:UInt8}(h:s[i]? =some c):byte' s (i:Int)=some (c.toNat:Int):=by unfold byte';rw [jA,h];rfl
theorem aJm (l:List α){i:Nat}(h:i<=l.length):sub' l 0 (i:Int)=some (l.take i):=by
 unfold sub';rw [if_pos (by omega)];simp
end
section
variable {α β γ σ:Type}
theorem aPx {g:σ->α->σ}{fin:σ->Option β}: ∀(l:List α) (i:Nat) (s:σ),aEm (λ_ x s=> .inl (g s x)) fin l i s=fin (l.foldl g s)
 | [],_,_=>rfl
 |x::l,i,s=>by rw [aEm];exact aPx l (i+1) (g s x)
theorem aYn {body:(γ->Option β)->γ->Option β}(enc:Nat->σ->γ)(l:List α)(g:σ->α->σ)(fin:σ->Option β)(b:l.length<=9223372036854775807)
    (h: ∀k i s x,l[i]? =some x->i<l.length->body k (enc i s)=k (enc (i+1) (g s x)))(c: ∀k s,body k (enc l.length s)=fin s)(s:σ):fB body (enc 0 s)=fin (l.foldl g s):=by
 rw [<-aPx (g:=g) (fin:=fin) l 0 s];exact rG enc l _ _ b (λk i s x a=>h k i s x a (gS.1 a).1) c s
theorem xG {body:(γ->Option β)->γ->Option β}(enc:Nat->γ)(l:List α)(fin:Option β)(a:l.length<=9223372036854775807)
  (h: ∀k i x,l[i]? =some x->i<l.length->body k (enc i)=k (enc (i+1)))(b: ∀k,body k (enc l.length)=fin):fB body (enc 0)=fin:=
 aYn (σ:=Unit) (λi _=>enc i) l (λ_ _=>()) (λ_=>fin) a (λk i _ x c d=>h k i x c d) (λk _=>b k) ()
end
section
variable {α β γ σ:Type}
theorem aOw {body:(γ->Option β)->γ->Option β}(enc:Nat->σ->γ)(l:List α)(I:Nat->σ->Prop)(R:β->Prop)
  (h: ∀k i s x,l[i]? =some x->i<l.length->I i s-> ∃a,I (i+1) a/\body k (enc i s)=k (enc (i+1) a))(c: ∀k s,I l.length s-> ∃r,body k (enc l.length s)=some r/\R r):
  ∀(d i:Nat) (s:σ) (n:Nat),i+d=l.length->d<n->I i s-> ∃r,eQ body n (enc i s)=some r/\R r
 |0,i,s,n,hd,e,b=>by
  obtain⟨m,rfl⟩: ∃m,n=m+1:=⟨n-1,by omega⟩;obtain rfl:i=l.length:=by omega
  rw [eQ];exact c _ s b
 |d+1,i,s,n,hd,e,b=>by
  obtain⟨m,rfl⟩: ∃m,n=m+1:=⟨n-1,by omega⟩;have hi:i<l.length:=by omega
  obtain⟨a,f,j⟩:=h (eQ body m) i s l[i] (gE hi) hi b;rw [eQ,j];exact aOw enc l I R h c d (i+1) a m (by omega) (by omega) f
theorem kZ {body:(γ->Option β)->γ->Option β}(enc:Nat->σ->γ)(l:List α)(I:Nat->σ->Prop)(R:β->Prop)(b:l.length<=9223372036854775807)
  (h: ∀k i s x,l[i]? =some x->i<l.length->I i s-> ∃a,I (i+1) a/\body k (enc i s)=k (enc (i+1) a))(c: ∀k s,I l.length s-> ∃r,body k (enc l.length s)=some r/\R r)(s:σ)(d:I 0 s):
  ∃r,fB body (enc 0 s)=some r/\R r:=aOw enc l I R h c l.length 0 s FU (by omega) (jF b) d
theorem aLt (A:List α)(x y:α)(B:List α)(n:Nat)(h:A.length=n):set' (A++x::B) (n:Int) y=some (A++y::B):=by
 subst h;unfold set';rw [if_pos ⟨by omega,by simp;omega⟩];simp
theorem aKu (A:List α)(x:α)(B:List α)(n:Nat)(h:A.length=n):at' (A++x::B) (n:Int)=some x:=by
 subst h;exact yF (by simp)
end
end Go.Lf
