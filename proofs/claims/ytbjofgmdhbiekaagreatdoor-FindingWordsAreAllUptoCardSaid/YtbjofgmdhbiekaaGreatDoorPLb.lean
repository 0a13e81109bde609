/- Laws that the claim stands on; no condition beyond those stated. -/
import Derived.Test.YtbjofgmdhbiekaaGreatDoorLfP
namespace Go.Lf
section
variable {α β γ σ:Type}
theorem zD (a:α)(k:α->Option β):gG a k=k a:=Eq.trans rfl rfl
theorem zC (a:α)(k:α->Option β):gB (some a) k=k a:=Eq.trans rfl rfl
theorem yH (k:γ->Option β)(m:(γ->Option β)->Option β):fP k m=m k:=Eq.trans rfl rfl
theorem zT (x y:Option β):gJ true x y=x:=Eq.trans rfl rfl
theorem zM (x y:Option β):gJ false x y=y:=Eq.trans rfl rfl
theorem aZh (x y:Bool):gJ x (some x) (some y)=some (x||y):=by cases x<;>rfl
theorem xM (x y:Bool):gJ x (some true) (some y)=some (x||y):=by cases x<;>rfl
theorem dY (x y:Bool):gJ x (some y) (some false)=some (x&&y):=by cases x<;>rfl
theorem iteB_id (x:Bool):gJ x (some true) (some false)=some x:=by cases x<;>rfl
theorem yS (p:Prop) [Decidable p] (x y:Option β):gJ (decide p) x y=if p then x else y:=by by_cases h:p<;>simp [h,gJ]
theorem yO {l:List α}{i:Nat}{x:α}(h:l[i]? =some x):at' l (i:Int)=some x:=by unfold at';rw [if_pos (by omega),Int.toNat_natCast];exact h
theorem aAb (l:List α)(i:Nat):at' l (i:Int)=l[i]? :=by unfold at';rw [if_pos (by omega),Int.toNat_natCast]
def aX (f:Nat->α->σ->σ ⊕ Option β)(fin:σ->Option β):List α->Nat->σ->Option β
 | [],_,s=>fin s
 |x::l,i,s=>match f i x s with
  | .inl a=>aX f fin l (i+1) a
  | .inr r=>r
theorem aKm {body:(γ->Option β)->γ->Option β}(enc:Nat->σ->γ)(l:List α)(f:Nat->α->σ->σ ⊕ Option β)(fin:σ->Option β)
  (h: ∀k i s x,l[i]? =some x->body k (enc i s)=match f i x s with | .inl a=>k (enc (i+1) a)| .inr r=>r)(b: ∀k s,body k (enc l.length s)=fin s):
  ∀(d i:Nat) (s:σ) (n:Nat),i+d=l.length->d<n->kC body n (enc i s)=aX f fin (l.drop i) i s
 |0,i,s,n,hd,c=>by
  obtain⟨m,rfl⟩: ∃m,n=m+1:=⟨n-1,by omega⟩;obtain rfl:i=l.length:=by omega
  rw [kC,b,List.drop_length];rfl
 |d+1,i,s,n,hd,c=>by
  obtain⟨m,rfl⟩: ∃m,n=m+1:=⟨n-1,by omega⟩;have hi:i<l.length:=by omega
  rw [kC,h _ i s l[i] (gE hi),List.drop_eq_getElem_cons hi,aX]
  cases f i l[i] s with
  |inl a=>exact aKm enc l f fin h b d (i+1) a m (by omega) (by omega)
  |inr r=>rfl
theorem aLo {n:Nat}(h:n<=9223372036854775807):n<FU:=by unfold FU;omega
theorem nX {body:(γ->Option β)->γ->Option β}(enc:Nat->σ->γ)(l:List α)(f:Nat->α->σ->σ ⊕ Option β)(fin:σ->Option β)(a:l.length<=9223372036854775807)
    (h: ∀k i s x,l[i]? =some x->body k (enc i s)=match f i x s with | .inl s'=>k (enc (i+1) s')| .inr r=>r)(b: ∀k s,body k (enc l.length s)=fin s)(s:σ):
    gZ body (enc 0 s)=aX f fin l 0 s:=by
 unfold gZ;have:=aKm enc l f fin h b l.length 0 s FU (by omega) (aLo a);rwa [List.drop_zero]at this
end
theorem fJ {i n:Nat}(h:i<n)(a:n<=9223372036854775807):IntKind.i64.wrap ((i:Int)+1)=((i+1:Nat):Int):=by rw [Go.OB.wrap_i64 (by omega) (by omega)];omega
section
variable {α β γ σ:Type}
def dI (q:Nat->α->Option (Option β))(fin:Option β):List α->Nat->Option β
 | [],_=>fin
 |x::l,i=>match q i x with
  |some r=>r
  |none=>dI q fin l (i+1)
theorem aNd {f:Nat->α->Unit->Unit ⊕ Option β}{fin:Unit->Option β}(q:Nat->α->Option (Option β))(a: ∀i x,f i x ()=match q i x with |some r=> .inr r|none=> .inl ()):
  ∀(l:List α) (i:Nat),aX f fin l i ()=dI q (fin ()) l i
 | [],i=>rfl
 |x::l,i=>by
  rw [aX,dI,a]
  cases q i x with
  |none=>exact aNd q a l (i+1)
  |some r=>rfl
theorem xQ {body:(Int->Option β)->Int->Option β}(l:List α)(q:Nat->α->Option (Option β))(fin:Option β)(b:l.length<=9223372036854775807)
  (h: ∀k (i:Nat) x,l[i]? =some x->i<l.length->body k (i:Int)=match q i x with |some r=>r|none=>k ((i+1:Nat):Int))(c: ∀k,body k (l.length:Int)=fin):gZ body 0=dI q fin l 0:=by
 rw [<-aNd (f:=λi x _=>match q i x with |some r=> .inr r|none=> .inl ()) (fin:=λ_=>fin) q (λ_ _=>rfl)];refine nX (λ(i:Nat) (_:Unit)=>(i:Int)) l _ _ b (λk i s x a=>?_) (λk s=>c k) ();rw [h k i x a (gS.1 a).1]
 cases q i x<;>rfl
def rC (p:Nat->α->Bool):List α->Nat->Bool
 | [],_=>false
 |x::l,i=>p i x||rC p l (i+1)
theorem tJ (p:Nat->α->Bool)(r fin:Option β): ∀(l:List α) (i:Nat),dI (λi x=>if p i x=true then some r else none) fin l i=if rC p l i=true then r else fin
 | [],i=>rfl
 |x::l,i=>by
  rw [dI,rC]
  cases hp:p i x with
  |true=>simp
  |false=>simp only [Bool.false_or,Bool.false_eq_true,if_false];exact tJ p r fin l (i+1)
theorem aSb (p:Nat->α->Bool): ∀(l:List α) (i:Nat),rC p l i=true↔ ∃j x,l[j]? =some x/\p (i+j) x=true
 | [],i=>by simp [rC]
 |x::l,i=>by
  rw [rC,Bool.or_eq_true,aSb p l (i+1)];constructor
  ·rintro(h|⟨j,y,h1,a⟩)
   ·exact⟨0,x,rfl,by simpa using h⟩
   ·exact⟨j+1,y,by simpa using h1,by rwa [show i+(j+1)=i+1+j by omega]⟩
  ·rintro⟨j,y,h1,a⟩
   cases j with
   |zero=>simp at h1;subst h1;exact .inl (by simpa using a)
   |succ j=>exact .inr ⟨j,y,by simpa using h1,by rwa [show i+1+j=i+(j+1)by omega]⟩
theorem aMd {p q:Nat->α->Bool}: ∀(l:List α) (i:Nat),(∀j x,l[j]? =some x->p (i+j) x=q (i+j) x)->rC p l i=rC q l i
 | [],i,_=>rfl
 |x::l,i,h=>by
  have a:=h 0 x rfl;rw [Nat.add_zero]at a;have h1:=aMd (p:=p) (q:=q) l (i+1) (λj y b=>by have:=h (j+1) y (by simpa using b);rwa [show i+(j+1)=i+1+j by omega]at this);rw [rC,rC,a,h1]
theorem yD {i n:Nat}(h:i<n):decide ((i:Int)<(n:Int))=true:=dT (by omega)
theorem yE (n:Nat):decide ((n:Int)<(n:Int))=false:=qD (by omega)
theorem aBt {s:Str}{i:Nat}{c:UInt8}(h:s[i]? =some c):byte' s (i:Int)=some (c.toNat:Int):=by unfold byte';rw [aAb,h];rfl
theorem aCb (l:List α){i:Nat}(h:i<=l.length):sub' l 0 (i:Int)=some (l.take i):=by
 unfold sub';rw [if_pos (by omega)];simp
end
section
variable {α β γ σ:Type}
theorem aNb {g:σ->α->σ}{fin:σ->Option β}: ∀(l:List α) (i:Nat) (s:σ),aX (λ_ x s=> .inl (g s x)) fin l i s=fin (l.foldl g s)
 | [],_,_=>rfl
 |x::l,i,s=>by rw [aX];exact aNb l (i+1) (g s x)
theorem aMa {body:(γ->Option β)->γ->Option β}(enc:Nat->σ->γ)(l:List α)(g:σ->α->σ)(fin:σ->Option β)(b:l.length<=9223372036854775807)
    (h: ∀k i s x,l[i]? =some x->i<l.length->body k (enc i s)=k (enc (i+1) (g s x)))(c: ∀k s,body k (enc l.length s)=fin s)(s:σ):gZ body (enc 0 s)=fin (l.foldl g s):=by
 rw [<-aNb (g:=g) (fin:=fin) l 0 s];exact nX enc l _ _ b (λk i s x a=>h k i s x a (gS.1 a).1) c s
theorem loopO_at {body:(γ->Option β)->γ->Option β}(enc:Nat->γ)(l:List α)(fin:Option β)(a:l.length<=9223372036854775807)
  (h: ∀k i x,l[i]? =some x->i<l.length->body k (enc i)=k (enc (i+1)))(b: ∀k,body k (enc l.length)=fin):gZ body (enc 0)=fin:=
 aMa (σ:=Unit) (λi _=>enc i) l (λ_ _=>()) (λ_=>fin) a (λk i _ x h1 c=>h k i x h1 c) (λk _=>b k) ()
end
section
variable {α β γ σ:Type}
theorem aNf {body:(γ->Option β)->γ->Option β}(enc:Nat->σ->γ)(l:List α)(I:Nat->σ->Prop)(R:β->Prop)
  (h: ∀k i s x,l[i]? =some x->i<l.length->I i s-> ∃a,I (i+1) a/\body k (enc i s)=k (enc (i+1) a))(c: ∀k s,I l.length s-> ∃r,body k (enc l.length s)=some r/\R r):
  ∀(d i:Nat) (s:σ) (n:Nat),i+d=l.length->d<n->I i s-> ∃r,kC body n (enc i s)=some r/\R r
 |0,i,s,n,hd,e,b=>by
  obtain⟨m,rfl⟩: ∃m,n=m+1:=⟨n-1,by omega⟩;obtain rfl:i=l.length:=by omega
  rw [kC];exact c _ s b
 |d+1,i,s,n,hd,e,b=>by
  obtain⟨m,rfl⟩: ∃m,n=m+1:=⟨n-1,by omega⟩;have hi:i<l.length:=by omega
  obtain⟨a,h1,f⟩:=h (kC body m) i s l[i] (gE hi) hi b;rw [kC,f];exact aNf enc l I R h c d (i+1) a m (by omega) (by omega) h1
theorem aMw {body:(γ->Option β)->γ->Option β}(enc:Nat->σ->γ)(l:List α)(I:Nat->σ->Prop)(R:β->Prop)(b:l.length<=9223372036854775807)
  (h: ∀k i s x,l[i]? =some x->i<l.length->I i s-> ∃a,I (i+1) a/\body k (enc i s)=k (enc (i+1) a))(c: ∀k s,I l.length s-> ∃r,body k (enc l.length s)=some r/\R r)(s:σ)(d:I 0 s):
  ∃r,gZ body (enc 0 s)=some r/\R r:=aNf enc l I R h c l.length 0 s FU (by omega) (aLo b) d
theorem set_at (A:List α)(x y:α)(B:List α)(n:Nat)(h:A.length=n):set' (A++x::B) (n:Int) y=some (A++y::B):=by
 subst h;unfold set';rw [if_pos ⟨by omega,by simp;omega⟩];simp
theorem at_mid (A:List α)(x:α)(B:List α)(n:Nat)(h:A.length=n):at' (A++x::B) (n:Int)=some x:=by
 subst h;exact yO (by simp)
end
end Go.Lf
