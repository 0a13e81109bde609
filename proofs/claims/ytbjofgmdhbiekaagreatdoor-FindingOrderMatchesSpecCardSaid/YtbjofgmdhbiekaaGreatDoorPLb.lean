/- Laws that the claim stands on; no condition beyond those stated. -/
import Derived.Test.YtbjofgmdhbiekaaGreatDoorLfP
namespace Go.Lf
section
variable {α β γ σ:Type}
theorem zK (a:α)(k:α->Option β):gG a k=k a:=Eq.trans rfl rfl
theorem zC (a:α)(k:α->Option β):gB (some a) k=k a:=Eq.trans rfl rfl
theorem yO (k:γ->Option β)(m:(γ->Option β)->Option β):fP k m=m k:=Eq.trans rfl rfl
theorem zU (x y:Option β):gJ true x y=x:=Eq.trans rfl rfl
theorem zQ (x y:Option β):gJ false x y=y:=Eq.trans rfl rfl
theorem aWw (x y:Bool):gJ x (some x) (some y)=some (x||y):=by cases x<;>rfl
theorem wB (x y:Bool):gJ x (some true) (some y)=some (x||y):=by cases x<;>rfl
theorem dW (x y:Bool):gJ x (some y) (some false)=some (x&&y):=by cases x<;>rfl
theorem iteB_id (x:Bool):gJ x (some true) (some false)=some x:=by cases x<;>rfl
theorem yX (p:Prop) [Decidable p] (x y:Option β):gJ (decide p) x y=if p then x else y:=by by_cases h:p<;>simp [h,gJ]
theorem yY {l:List α}{i:Nat}{x:α}(h:l[i]? =some x):at' l (i:Int)=some x:=by unfold at';rw [if_pos (by omega),Int.toNat_natCast];exact h
theorem aBw (l:List α)(i:Nat):at' l (i:Int)=l[i]? :=by unfold at';rw [if_pos (by omega),Int.toNat_natCast]
def aP (f:Nat->α->σ->σ ⊕ Option β)(fin:σ->Option β):List α->Nat->σ->Option β
 | [],_,s=>fin s
 |x::l,i,s=>match f i x s with
  | .inl a=>aP f fin l (i+1) a
  | .inr r=>r
theorem aKk {body:(γ->Option β)->γ->Option β}(enc:Nat->σ->γ)(l:List α)(f:Nat->α->σ->σ ⊕ Option β)(fin:σ->Option β)
  (h: ∀k i s x,l[i]? =some x->body k (enc i s)=match f i x s with | .inl a=>k (enc (i+1) a)| .inr r=>r)(b: ∀k s,body k (enc l.length s)=fin s):
  ∀(d i:Nat) (s:σ) (n:Nat),i+d=l.length->d<n->bZ body n (enc i s)=aP f fin (l.drop i) i s
 |0,i,s,n,hd,c=>by
  obtain⟨m,rfl⟩: ∃m,n=m+1:=⟨n-1,by omega⟩;obtain rfl:i=l.length:=by omega
  rw [bZ,b,List.drop_length];rfl
 |d+1,i,s,n,hd,c=>by
  obtain⟨m,rfl⟩: ∃m,n=m+1:=⟨n-1,by omega⟩;have hi:i<l.length:=by omega
  rw [bZ,h _ i s l[i] (gE hi),List.drop_eq_getElem_cons hi,aP]
  cases f i l[i] s with
  |inl a=>exact aKk enc l f fin h b d (i+1) a m (by omega) (by omega)
  |inr r=>rfl
theorem aAv {n:Nat}(h:n<=9223372036854775807):n<FU:=by unfold FU;omega
theorem jZ {body:(γ->Option β)->γ->Option β}(enc:Nat->σ->γ)(l:List α)(f:Nat->α->σ->σ ⊕ Option β)(fin:σ->Option β)(a:l.length<=9223372036854775807)
    (h: ∀k i s x,l[i]? =some x->body k (enc i s)=match f i x s with | .inl s'=>k (enc (i+1) s')| .inr r=>r)(b: ∀k s,body k (enc l.length s)=fin s)(s:σ):
    gY body (enc 0 s)=aP f fin l 0 s:=by
 unfold gY;have:=aKk enc l f fin h b l.length 0 s FU (by omega) (aAv a);rwa [List.drop_zero]at this
end
theorem fQ {i n:Nat}(h:i<n)(a:n<=9223372036854775807):IntKind.i64.wrap ((i:Int)+1)=((i+1:Nat):Int):=by rw [Go.OB.wrap_i64 (by omega) (by omega)];omega
section
variable {α β γ σ:Type}
def cZ (q:Nat->α->Option (Option β))(fin:Option β):List α->Nat->Option β
 | [],_=>fin
 |x::l,i=>match q i x with
  |some r=>r
  |none=>cZ q fin l (i+1)
theorem aMp {f:Nat->α->Unit->Unit ⊕ Option β}{fin:Unit->Option β}(q:Nat->α->Option (Option β))(a: ∀i x,f i x ()=match q i x with |some r=> .inr r|none=> .inl ()):
  ∀(l:List α) (i:Nat),aP f fin l i ()=cZ q (fin ()) l i
 | [],i=>rfl
 |x::l,i=>by
  rw [aP,cZ,a]
  cases q i x with
  |none=>exact aMp q a l (i+1)
  |some r=>rfl
theorem xY {body:(Int->Option β)->Int->Option β}(l:List α)(q:Nat->α->Option (Option β))(fin:Option β)(b:l.length<=9223372036854775807)
  (h: ∀k (i:Nat) x,l[i]? =some x->i<l.length->body k (i:Int)=match q i x with |some r=>r|none=>k ((i+1:Nat):Int))(c: ∀k,body k (l.length:Int)=fin):gY body 0=cZ q fin l 0:=by
 rw [<-aMp (f:=λi x _=>match q i x with |some r=> .inr r|none=> .inl ()) (fin:=λ_=>fin) q (λ_ _=>rfl)];refine jZ (λ(i:Nat) (_:Unit)=>(i:Int)) l _ _ b (λk i s x a=>?_) (λk s=>c k) ();rw [h k i x a (gS.1 a).1]
 cases q i x<;>rfl
def qR (p:Nat->α->Bool):List α->Nat->Bool
 | [],_=>false
 |x::l,i=>p i x||qR p l (i+1)
theorem uD (p:Nat->α->Bool)(r fin:Option β): ∀(l:List α) (i:Nat),cZ (λi x=>if p i x=true then some r else none) fin l i=if qR p l i=true then r else fin
 | [],i=>rfl
 |x::l,i=>by
  rw [cZ,qR]
  cases hp:p i x with
  |true=>simp
  |false=>simp only [Bool.false_or,Bool.false_eq_true,if_false];exact uD p r fin l (i+1)
theorem aRr (p:Nat->α->Bool): ∀(l:List α) (i:Nat),qR p l i=true↔ ∃j x,l[j]? =some x/\p (i+j) x=true
 | [],i=>by simp [qR]
 |x::l,i=>by
  rw [qR,Bool.or_eq_true,aRr p l (i+1)];constructor
  ·rintro(h|⟨j,y,a,b⟩)
   ·exact⟨0,x,rfl,by simpa using h⟩
   ·exact⟨j+1,y,by simpa using a,by rwa [show i+(j+1)=i+1+j by omega]⟩
  ·rintro⟨j,y,a,b⟩
   cases j with
   |zero=>simp at a;subst a;exact .inl (by simpa using b)
   |succ j=>exact .inr ⟨j,y,by simpa using a,by rwa [show i+1+j=i+(j+1)by omega]⟩
theorem aJg {p q:Nat->α->Bool}: ∀(l:List α) (i:Nat),(∀j x,l[j]? =some x->p (i+j) x=q (i+j) x)->qR p l i=qR q l i
 | [],i,_=>rfl
 |x::l,i,h=>by
  have a:=h 0 x rfl;rw [Nat.add_zero]at a;have b:=aJg (p:=p) (q:=q) l (i+1) (λj y c=>by have:=h (j+1) y (by simpa using c);rwa [show i+(j+1)=i+1+j by omega]at this);rw [qR,qR,a,b]
theorem yK {i n:Nat}(h:i<n):decide ((i:Int)<(n:Int))=true:=dT (by omega)
theorem yN (n:Nat):decide ((n:Int)<(n:Int))=false:=qD (by omega)
theorem aBk {s:Str}{i:Nat}{c:UInt8}(h:s[i]? =some c):byte' s (i:Int)=some (c.toNat:Int):=by unfold byte';rw [aBw,h];rfl
theorem aCu (l:List α){i:Nat}(h:i<=l.length):sub' l 0 (i:Int)=some (l.take i):=by
 unfold sub';rw [if_pos (by omega)];simp
end
section
variable {α β γ σ:Type}
theorem aNj {g:σ->α->σ}{fin:σ->Option β}: ∀(l:List α) (i:Nat) (s:σ),aP (λ_ x s=> .inl (g s x)) fin l i s=fin (l.foldl g s)
 | [],_,_=>rfl
 |x::l,i,s=>by rw [aP];exact aNj l (i+1) (g s x)
theorem aLn {body:(γ->Option β)->γ->Option β}(enc:Nat->σ->γ)(l:List α)(g:σ->α->σ)(fin:σ->Option β)(b:l.length<=9223372036854775807)
    (h: ∀k i s x,l[i]? =some x->i<l.length->body k (enc i s)=k (enc (i+1) (g s x)))(c: ∀k s,body k (enc l.length s)=fin s)(s:σ):gY body (enc 0 s)=fin (l.foldl g s):=by
 rw [<-aNj (g:=g) (fin:=fin) l 0 s];exact jZ enc l _ _ b (λk i s x a=>h k i s x a (gS.1 a).1) c s
theorem loopO_at {body:(γ->Option β)->γ->Option β}(enc:Nat->γ)(l:List α)(fin:Option β)(a:l.length<=9223372036854775807)
  (h: ∀k i x,l[i]? =some x->i<l.length->body k (enc i)=k (enc (i+1)))(b: ∀k,body k (enc l.length)=fin):gY body (enc 0)=fin:=
 aLn (σ:=Unit) (λi _=>enc i) l (λ_ _=>()) (λ_=>fin) a (λk i _ x c d=>h k i x c d) (λk _=>b k) ()
end
section
variable {α β γ σ:Type}
theorem aNd {body:(γ->Option β)->γ->Option β}(enc:Nat->σ->γ)(l:List α)(I:Nat->σ->Prop)(R:β->Prop)
  (h: ∀k i s x,l[i]? =some x->i<l.length->I i s-> ∃a,I (i+1) a/\body k (enc i s)=k (enc (i+1) a))(c: ∀k s,I l.length s-> ∃r,body k (enc l.length s)=some r/\R r):
  ∀(d i:Nat) (s:σ) (n:Nat),i+d=l.length->d<n->I i s-> ∃r,bZ body n (enc i s)=some r/\R r
 |0,i,s,n,hd,e,b=>by
  obtain⟨m,rfl⟩: ∃m,n=m+1:=⟨n-1,by omega⟩;obtain rfl:i=l.length:=by omega
  rw [bZ];exact c _ s b
 |d+1,i,s,n,hd,e,b=>by
  obtain⟨m,rfl⟩: ∃m,n=m+1:=⟨n-1,by omega⟩;have hi:i<l.length:=by omega
  obtain⟨a,f,g⟩:=h (bZ body m) i s l[i] (gE hi) hi b;rw [bZ,g];exact aNd enc l I R h c d (i+1) a m (by omega) (by omega) f
theorem aMt {body:(γ->Option β)->γ->Option β}(enc:Nat->σ->γ)(l:List α)(I:Nat->σ->Prop)(R:β->Prop)(b:l.length<=9223372036854775807)
  (h: ∀k i s x,l[i]? =some x->i<l.length->I i s-> ∃a,I (i+1) a/\body k (enc i s)=k (enc (i+1) a))(c: ∀k s,I l.length s-> ∃r,body k (enc l.length s)=some r/\R r)(s:σ)(d:I 0 s):
  ∃r,gY body (enc 0 s)=some r/\R r:=aNd enc l I R h c l.length 0 s FU (by omega) (aAv b) d
end
end Go.Lf
