/- Laws that the claim stands on; no condition beyond those stated. -/
import Derived.Test.YtbjofgmdhbiekaaGreatDoorLfP
namespace Go.Lf
section
variable {α β γ σ:Type}
theorem zK (a:α)(k:α->Option β):gG a k=k a:=Eq.trans rfl rfl
theorem zC (a:α)(k:α->Option β):gB (some a) k=k a:=Eq.trans rfl rfl
theorem yN (k:γ->Option β)(m:(γ->Option β)->Option β):fU k m=m k:=Eq.trans rfl rfl
theorem zV (x y:Option β):gJ true x y=x:=Eq.trans rfl rfl
theorem zT (x y:Option β):gJ false x y=y:=Eq.trans rfl rfl
theorem aXv (x y:Bool):gJ x (some x) (some y)=some (x||y):=by cases x<;>rfl
theorem xQ (x y:Bool):gJ x (some true) (some y)=some (x||y):=by cases x<;>rfl
theorem bZ (x y:Bool):gJ x (some y) (some false)=some (x&&y):=by cases x<;>rfl
theorem iteB_id (x:Bool):gJ x (some true) (some false)=some x:=by cases x<;>rfl
theorem xA (p:Prop) [Decidable p] (x y:Option β):gJ (decide p) x y=if p then x else y:=by by_cases h:p<;>simp [h,gJ]
theorem yU {l:List α}{i:Nat}{x:α}(h:l[i]? =some x):at' l (i:Int)=some x:=by unfold at';rw [if_pos (by omega),Int.toNat_natCast];exact h
theorem aGx (l:List α)(i:Nat):at' l (i:Int)=l[i]? :=by unfold at';rw [if_pos (by omega),Int.toNat_natCast]
def kH (f:Nat->α->σ->σ ⊕ Option β)(fin:σ->Option β):List α->Nat->σ->Option β
 | [],_,s=>fin s
 |x::l,i,s=>match f i x s with
  | .inl a=>kH f fin l (i+1) a
  | .inr r=>r
theorem aJq {body:(γ->Option β)->γ->Option β}(enc:Nat->σ->γ)(l:List α)(f:Nat->α->σ->σ ⊕ Option β)(fin:σ->Option β)
  (h: ∀k i s x,l[i]? =some x->body k (enc i s)=match f i x s with | .inl a=>k (enc (i+1) a)| .inr r=>r)(b: ∀k s,body k (enc l.length s)=fin s):
  ∀(d i:Nat) (s:σ) (n:Nat),i+d=l.length->d<n->jC body n (enc i s)=kH f fin (l.drop i) i s
 |0,i,s,n,hd,c=>by
  obtain⟨m,rfl⟩: ∃m,n=m+1:=⟨n-1,by omega⟩;obtain rfl:i=l.length:=by omega
  rw [jC,b,List.drop_length];rfl
 |d+1,i,s,n,hd,c=>by
  obtain⟨m,rfl⟩: ∃m,n=m+1:=⟨n-1,by omega⟩;have hi:i<l.length:=by omega
  rw [jC,h _ i s l[i] (gE hi),List.drop_eq_getElem_cons hi,kH]
  cases f i l[i] s with
  |inl a=>exact aJq enc l f fin h b d (i+1) a m (by omega) (by omega)
  |inr r=>rfl
theorem aPb {n:Nat}(h:n<=9223372036854775807):n<FU:=by unfold FU;omega
theorem pU {body:(γ->Option β)->γ->Option β}(enc:Nat->σ->γ)(l:List α)(f:Nat->α->σ->σ ⊕ Option β)(fin:σ->Option β)(a:l.length<=9223372036854775807)
    (h: ∀k i s x,l[i]? =some x->body k (enc i s)=match f i x s with | .inl s'=>k (enc (i+1) s')| .inr r=>r)(b: ∀k s,body k (enc l.length s)=fin s)(s:σ):
    fA body (enc 0 s)=kH f fin l 0 s:=by
 unfold fA;have:=aJq enc l f fin h b l.length 0 s FU (by omega) (aPb a);rwa [List.drop_zero]at this
end
theorem fO {i n:Nat}(h:i<n)(a:n<=9223372036854775807):IntKind.i64.wrap ((i:Int)+1)=((i+1:Nat):Int):=by rw [Go.OB.wrap_i64 (by omega) (by omega)];omega
section
variable {α β γ σ:Type}
def bW (q:Nat->α->Option (Option β))(fin:Option β):List α->Nat->Option β
 | [],_=>fin
 |x::l,i=>match q i x with
  |some r=>r
  |none=>bW q fin l (i+1)
theorem aNs {f:Nat->α->Unit->Unit ⊕ Option β}{fin:Unit->Option β}(q:Nat->α->Option (Option β))(a: ∀i x,f i x ()=match q i x with |some r=> .inr r|none=> .inl ()):
  ∀(l:List α) (i:Nat),kH f fin l i ()=bW q (fin ()) l i
 | [],i=>rfl
 |x::l,i=>by
  rw [kH,bW,a]
  cases q i x with
  |none=>exact aNs q a l (i+1)
  |some r=>rfl
theorem xY {body:(Int->Option β)->Int->Option β}(l:List α)(q:Nat->α->Option (Option β))(fin:Option β)(b:l.length<=9223372036854775807)
  (h: ∀k (i:Nat) x,l[i]? =some x->i<l.length->body k (i:Int)=match q i x with |some r=>r|none=>k ((i+1:Nat):Int))(c: ∀k,body k (l.length:Int)=fin):fA body 0=bW q fin l 0:=by
 rw [<-aNs (f:=λi x _=>match q i x with |some r=> .inr r|none=> .inl ()) (fin:=λ_=>fin) q (λ_ _=>rfl)];refine pU (λ(i:Nat) (_:Unit)=>(i:Int)) l _ _ b (λk i s x a=>?_) (λk s=>c k) ();rw [h k i x a (gS.1 a).1]
 cases q i x<;>rfl
def rH (p:Nat->α->Bool):List α->Nat->Bool
 | [],_=>false
 |x::l,i=>p i x||rH p l (i+1)
theorem uI (p:Nat->α->Bool)(r fin:Option β): ∀(l:List α) (i:Nat),bW (λi x=>if p i x=true then some r else none) fin l i=if rH p l i=true then r else fin
 | [],i=>rfl
 |x::l,i=>by
  rw [bW,rH]
  cases hp:p i x with
  |true=>simp
  |false=>simp only [Bool.false_or,Bool.false_eq_true,if_false];exact uI p r fin l (i+1)
theorem aTk (p:Nat->α->Bool): ∀(l:List α) (i:Nat),rH p l i=true↔ ∃j x,l[j]? =some x/\p (i+j) x=true
 | [],i=>by simp [rH]
 |x::l,i=>by
  rw [rH,Bool.or_eq_true,aTk p l (i+1)];constructor
  ·rintro(h|⟨j,y,h1,a⟩)
   ·exact⟨0,x,rfl,by simpa using h⟩
   ·exact⟨j+1,y,by simpa using h1,by rwa [show i+(j+1)=i+1+j by omega]⟩
  ·rintro⟨j,y,h1,a⟩
   cases j with
   |zero=>simp at h1;subst h1;exact .inl (by simpa using a)
   |succ j=>exact .inr ⟨j,y,by simpa using h1,by rwa [show i+1+j=i+(j+1)by omega]⟩
theorem aMd {p q:Nat->α->Bool}: ∀(l:List α) (i:Nat),(∀j x,l[j]? =some x->p (i+j) x=q (i+j) x)->rH p l i=rH q l i
 | [],i,_=>rfl
 |x::l,i,h=>by
  have a:=h 0 x rfl;rw [Nat.add_zero]at a;have h1:=aMd (p:=p) (q:=q) l (i+1) (λj y b=>by have:=h (j+1) y (by simpa using b);rwa [show i+(j+1)=i+1+j by omega]at this);rw [rH,rH,a,h1]
theorem yH {i n:Nat}(h:i<n):decide ((i:Int)<(n:Int))=true:=dT (by omega)
theorem yK (n:Nat):decide ((n:Int)<(n:Int))=false:=qD (by omega)
theorem aBz {s:Str}{i:Nat}{c:UInt8}(h:s[i]? =some c):byte' s (i:Int)=some (c.toNat:Int):=by unfold byte';rw [aGx,h];rfl
theorem aDc (l:List α){i:Nat}(h:i<=l.length):sub' l 0 (i:Int)=some (l.take i):=by
 unfold sub';rw [if_pos (by omega)];simp
end
section
variable {α β γ σ:Type}
theorem aNo {g:σ->α->σ}{fin:σ->Option β}: ∀(l:List α) (i:Nat) (s:σ),kH (λ_ x s=> .inl (g s x)) fin l i s=fin (l.foldl g s)
 | [],_,_=>rfl
 |x::l,i,s=>by rw [kH];exact aNo l (i+1) (g s x)
theorem aKd {body:(γ->Option β)->γ->Option β}(enc:Nat->σ->γ)(l:List α)(g:σ->α->σ)(fin:σ->Option β)(b:l.length<=9223372036854775807)
    (h: ∀k i s x,l[i]? =some x->i<l.length->body k (enc i s)=k (enc (i+1) (g s x)))(c: ∀k s,body k (enc l.length s)=fin s)(s:σ):fA body (enc 0 s)=fin (l.foldl g s):=by
 rw [<-aNo (g:=g) (fin:=fin) l 0 s];exact pU enc l _ _ b (λk i s x a=>h k i s x a (gS.1 a).1) c s
theorem loopO_at {body:(γ->Option β)->γ->Option β}(enc:Nat->γ)(l:List α)(fin:Option β)(a:l.length<=9223372036854775807)
  (h: ∀k i x,l[i]? =some x->i<l.length->body k (enc i)=k (enc (i+1)))(b: ∀k,body k (enc l.length)=fin):fA body (enc 0)=fin:=
 aKd (σ:=Unit) (λi _=>enc i) l (λ_ _=>()) (λ_=>fin) a (λk i _ x h1 c=>h k i x h1 c) (λk _=>b k) ()
end
section
variable {α β γ σ:Type}
theorem aNf {body:(γ->Option β)->γ->Option β}(enc:Nat->σ->γ)(l:List α)(I:Nat->σ->Prop)(R:β->Prop)
  (h: ∀k i s x,l[i]? =some x->i<l.length->I i s-> ∃a,I (i+1) a/\body k (enc i s)=k (enc (i+1) a))(c: ∀k s,I l.length s-> ∃r,body k (enc l.length s)=some r/\R r):
  ∀(d i:Nat) (s:σ) (n:Nat),i+d=l.length->d<n->I i s-> ∃r,jC body n (enc i s)=some r/\R r
 |0,i,s,n,hd,e,b=>by
  obtain⟨m,rfl⟩: ∃m,n=m+1:=⟨n-1,by omega⟩;obtain rfl:i=l.length:=by omega
  rw [jC];exact c _ s b
 |d+1,i,s,n,hd,e,b=>by
  obtain⟨m,rfl⟩: ∃m,n=m+1:=⟨n-1,by omega⟩;have hi:i<l.length:=by omega
  obtain⟨a,h1,f⟩:=h (jC body m) i s l[i] (gE hi) hi b;rw [jC,f];exact aNf enc l I R h c d (i+1) a m (by omega) (by omega) h1
theorem aOa {body:(γ->Option β)->γ->Option β}(enc:Nat->σ->γ)(l:List α)(I:Nat->σ->Prop)(R:β->Prop)(b:l.length<=9223372036854775807)
  (h: ∀k i s x,l[i]? =some x->i<l.length->I i s-> ∃a,I (i+1) a/\body k (enc i s)=k (enc (i+1) a))(c: ∀k s,I l.length s-> ∃r,body k (enc l.length s)=some r/\R r)(s:σ)(d:I 0 s):
  ∃r,fA body (enc 0 s)=some r/\R r:=aNf enc l I R h c l.length 0 s FU (by omega) (aPb b) d
end
end Go.Lf
