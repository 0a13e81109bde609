/- Laws that the claim stands on; no condition beyond those stated. -/
import Derived.Test.YtbjofgmdhbiekaaGreatDoorLfP
namespace Go.Lf
section
variable {α β γ σ:Type}
theorem zD (a:α)(k:α->Option β):gG a k=k a:=Eq.trans rfl rfl
theorem zA (a:α)(k:α->Option β):gB (some a) k=k a:=Eq.trans rfl rfl
theorem yC (k:γ->Option β)(m:(γ->Option β)->Option β):fK k m=m k:=Eq.trans rfl rfl
theorem zO (x y:Option β):gI true x y=x:=Eq.trans rfl rfl
theorem zL (x y:Option β):gI false x y=y:=Eq.trans rfl rfl
theorem aTj (x y:Bool):gI x (some x) (some y)=some (x||y):=by cases x<;>rfl
theorem xC (x y:Bool):gI x (some true) (some y)=some (x||y):=by cases x<;>rfl
theorem dM (x y:Bool):gI x (some y) (some false)=some (x&&y):=by cases x<;>rfl
theorem iteB_id (x:Bool):gI x (some true) (some false)=some x:=by cases x<;>rfl
theorem yN (p:Prop) [Decidable p] (x y:Option β):gI (decide p) x y=if p then x else y:=by by_cases h:p<;>simp [h,gI]
theorem yK {l:List α}{i:Nat}{x:α}(h:l[i]? =some x):at' l (i:Int)=some x:=by unfold at';rw [if_pos (by omega),Int.toNat_natCast];exact h
theorem vU (l:List α)(i:Nat):at' l (i:Int)=l[i]? :=by unfold at';rw [if_pos (by omega),Int.toNat_natCast]
def aO (f:Nat->α->σ->σ ⊕ Option β)(fin:σ->Option β):List α->Nat->σ->Option β
 | [],_,s=>fin s
 |x::l,i,s=>match f i x s with
  | .inl a=>aO f fin l (i+1) a
  | .inr r=>r
theorem aGt {body:(γ->Option β)->γ->Option β}(enc:Nat->σ->γ)(l:List α)(f:Nat->α->σ->σ ⊕ Option β)(fin:σ->Option β)
  (h: ∀k i s x,l[i]? =some x->body k (enc i s)=match f i x s with | .inl a=>k (enc (i+1) a)| .inr r=>r)(b: ∀k s,body k (enc l.length s)=fin s):
  ∀(d i:Nat) (s:σ) (n:Nat),i+d=l.length->d<n->aN body n (enc i s)=aO f fin (l.drop i) i s
 |0,i,s,n,hd,c=>by
  obtain⟨m,rfl⟩: ∃m,n=m+1:=⟨n-1,by omega⟩;obtain rfl:i=l.length:=by omega
  rw [aN,b,List.drop_length];rfl
 |d+1,i,s,n,hd,c=>by
  obtain⟨m,rfl⟩: ∃m,n=m+1:=⟨n-1,by omega⟩;have hi:i<l.length:=by omega
  rw [aN,h _ i s l[i] (gE hi),List.drop_eq_getElem_cons hi,aO]
  cases f i l[i] s with
  |inl a=>exact aGt enc l f fin h b d (i+1) a m (by omega) (by omega)
  |inr r=>rfl
theorem aHi {n:Nat}(h:n<=9223372036854775807):n<FU:=by unfold FU;omega
theorem mV {body:(γ->Option β)->γ->Option β}(enc:Nat->σ->γ)(l:List α)(f:Nat->α->σ->σ ⊕ Option β)(fin:σ->Option β)(a:l.length<=9223372036854775807)
    (h: ∀k i s x,l[i]? =some x->body k (enc i s)=match f i x s with | .inl s'=>k (enc (i+1) s')| .inr r=>r)(b: ∀k s,body k (enc l.length s)=fin s)(s:σ):
    gY body (enc 0 s)=aO f fin l 0 s:=by
 unfold gY;have:=aGt enc l f fin h b l.length 0 s FU (by omega) (aHi a);rwa [List.drop_zero]at this
end
theorem fH {i n:Nat}(h:i<n)(a:n<=9223372036854775807):IntKind.i64.wrap ((i:Int)+1)=((i+1:Nat):Int):=by rw [Go.OB.wrap_i64 (by omega) (by omega)];omega
section
variable {α β γ σ:Type}
def eU (q:Nat->α->Option (Option β))(fin:Option β):List α->Nat->Option β
 | [],_=>fin
 |x::l,i=>match q i x with
  |some r=>r
  |none=>eU q fin l (i+1)
theorem aKb {f:Nat->α->Unit->Unit ⊕ Option β}{fin:Unit->Option β}(q:Nat->α->Option (Option β))(a: ∀i x,f i x ()=match q i x with |some r=> .inr r|none=> .inl ()):
  ∀(l:List α) (i:Nat),aO f fin l i ()=eU q (fin ()) l i
 | [],i=>rfl
 |x::l,i=>by
  rw [aO,eU,a]
  cases q i x with
  |none=>exact aKb q a l (i+1)
  |some r=>rfl
theorem xG {body:(Int->Option β)->Int->Option β}(l:List α)(q:Nat->α->Option (Option β))(fin:Option β)(b:l.length<=9223372036854775807)
  (h: ∀k (i:Nat) x,l[i]? =some x->i<l.length->body k (i:Int)=match q i x with |some r=>r|none=>k ((i+1:Nat):Int))(c: ∀k,body k (l.length:Int)=fin):gY body 0=eU q fin l 0:=by
 rw [<-aKb (f:=λi x _=>match q i x with |some r=> .inr r|none=> .inl ()) (fin:=λ_=>fin) q (λ_ _=>rfl)];refine mV (λ(i:Nat) (_:Unit)=>(i:Int)) l _ _ b (λk i s x a=>?_) (λk s=>c k) ();rw [h k i x a (gS.1 a).1]
 cases q i x<;>rfl
def pV (p:Nat->α->Bool):List α->Nat->Bool
 | [],_=>false
 |x::l,i=>p i x||pV p l (i+1)
theorem rJ (p:Nat->α->Bool)(r fin:Option β): ∀(l:List α) (i:Nat),eU (λi x=>if p i x=true then some r else none) fin l i=if pV p l i=true then r else fin
 | [],i=>rfl
 |x::l,i=>by
  rw [eU,pV]
  cases hp:p i x with
  |true=>simp
  |false=>simp only [Bool.false_or,Bool.false_eq_true,if_false];exact rJ p r fin l (i+1)
theorem aOo (p:Nat->α->Bool): ∀(l:List α) (i:Nat),pV p l i=true↔ ∃j x,l[j]? =some x/\p (i+j) x=true
 | [],i=>by simp [pV]
 |x::l,i=>by
  rw [pV,Bool.or_eq_true,aOo p l (i+1)];constructor
  ·rintro(h|⟨j,y,a,b⟩)
   ·exact⟨0,x,rfl,by simpa using h⟩
   ·exact⟨j+1,y,by simpa using a,by rwa [show i+(j+1)=i+1+j by omega]⟩
  ·rintro⟨j,y,a,b⟩
   cases j with
   |zero=>simp at a;subst a;exact .inl (by simpa using b)
   |succ j=>exact .inr ⟨j,y,by simpa using a,by rwa [show i+1+j=i+(j+1)by omega]⟩
theorem aIa {p q:Nat->α->Bool}: ∀(l:List α) (i:Nat),(∀j x,l[j]? =some x->p (i+j) x=q (i+j) x)->pV p l i=pV q l i
 | [],i,_=>rfl
 |x::l,i,h=>by
  have a:=h 0 x rfl;rw [Nat.add_zero]at a;have b:=aIa (p:=p) (q:=q) l (i+1) (λj y c=>by have:=h (j+1) y (by simpa using c);rwa [show i+(j+1)=i+1+j by omega]at this);rw [pV,pV,a,b]
theorem yB {i n:Nat}(h:i<n):decide ((i:Int)<(n:Int))=true:=dT (by omega)
theorem yE (n:Nat):decide ((n:Int)<(n:Int))=false:=qD (by omega)
theorem wZ {s:Str}{i:Nat}{c:UInt8}(h:s[i]? =some c):byte' s (i:Int)=some (c.toNat:Int):=by unfold byte';rw [vU,h];rfl
theorem aAk (l:List α){i:Nat}(h:i<=l.length):sub' l 0 (i:Int)=some (l.take i):=by
 unfold sub';rw [if_pos (by omega)];simp
end
section
variable {α β γ σ:Type}
theorem aJk {g:σ->α->σ}{fin:σ->Option β}: ∀(l:List α) (i:Nat) (s:σ),aO (λ_ x s=> .inl (g s x)) fin l i s=fin (l.foldl g s)
 | [],_,_=>rfl
 |x::l,i,s=>by rw [aO];exact aJk l (i+1) (g s x)
theorem aIf {body:(γ->Option β)->γ->Option β}(enc:Nat->σ->γ)(l:List α)(g:σ->α->σ)(fin:σ->Option β)(b:l.length<=9223372036854775807)
    (h: ∀k i s x,l[i]? =some x->i<l.length->body k (enc i s)=k (enc (i+1) (g s x)))(c: ∀k s,body k (enc l.length s)=fin s)(s:σ):gY body (enc 0 s)=fin (l.foldl g s):=by
 rw [<-aJk (g:=g) (fin:=fin) l 0 s];exact mV enc l _ _ b (λk i s x a=>h k i s x a (gS.1 a).1) c s
theorem loopO_at {body:(γ->Option β)->γ->Option β}(enc:Nat->γ)(l:List α)(fin:Option β)(a:l.length<=9223372036854775807)
  (h: ∀k i x,l[i]? =some x->i<l.length->body k (enc i)=k (enc (i+1)))(b: ∀k,body k (enc l.length)=fin):gY body (enc 0)=fin:=
 aIf (σ:=Unit) (λi _=>enc i) l (λ_ _=>()) (λ_=>fin) a (λk i _ x c d=>h k i x c d) (λk _=>b k) ()
end
section
variable {α β γ σ:Type}
theorem aJh {body:(γ->Option β)->γ->Option β}(enc:Nat->σ->γ)(l:List α)(I:Nat->σ->Prop)(R:β->Prop)
  (h: ∀k i s x,l[i]? =some x->i<l.length->I i s-> ∃a,I (i+1) a/\body k (enc i s)=k (enc (i+1) a))(c: ∀k s,I l.length s-> ∃r,body k (enc l.length s)=some r/\R r):
  ∀(d i:Nat) (s:σ) (n:Nat),i+d=l.length->d<n->I i s-> ∃r,aN body n (enc i s)=some r/\R r
 |0,i,s,n,hd,e,b=>by
  obtain⟨m,rfl⟩: ∃m,n=m+1:=⟨n-1,by omega⟩;obtain rfl:i=l.length:=by omega
  rw [aN];exact c _ s b
 |d+1,i,s,n,hd,e,b=>by
  obtain⟨m,rfl⟩: ∃m,n=m+1:=⟨n-1,by omega⟩;have hi:i<l.length:=by omega
  obtain⟨a,f,g⟩:=h (aN body m) i s l[i] (gE hi) hi b;rw [aN,g];exact aJh enc l I R h c d (i+1) a m (by omega) (by omega) f
theorem loopO_inv {body:(γ->Option β)->γ->Option β}(enc:Nat->σ->γ)(l:List α)(I:Nat->σ->Prop)(R:β->Prop)(b:l.length<=9223372036854775807)
  (h: ∀k i s x,l[i]? =some x->i<l.length->I i s-> ∃a,I (i+1) a/\body k (enc i s)=k (enc (i+1) a))(c: ∀k s,I l.length s-> ∃r,body k (enc l.length s)=some r/\R r)(s:σ)(d:I 0 s):
  ∃r,gY body (enc 0 s)=some r/\R r:=aJh enc l I R h c l.length 0 s FU (by omega) (aHi b) d
theorem set_at (A:List α)(x y:α)(B:List α)(n:Nat)(h:A.length=n):set' (A++x::B) (n:Int) y=some (A++y::B):=by
 subst h;unfold set';rw [if_pos ⟨by omega,by simp;omega⟩];simp
theorem at_mid (A:List α)(x:α)(B:List α)(n:Nat)(h:A.length=n):at' (A++x::B) (n:Int)=some x:=by
 subst h;exact yK (by simp)
end
end Go.Lf
