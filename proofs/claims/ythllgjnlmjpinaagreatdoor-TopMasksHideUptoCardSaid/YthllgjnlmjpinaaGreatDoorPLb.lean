/- Walks: what each function computes, for every argument; no condition but those that stand in the statements. -/
import Derived.Test.YthllgjnlmjpinaaGreatDoorLfP
namespace Go.Lf
section
variable {α β γ σ:Type}
theorem zM (a:α)(k:α→Option β):gK a k=k a:=Eq.trans rfl rfl
theorem zI (a:α)(k:α→Option β):gG (some a) k=k a:=Eq.trans rfl rfl
theorem xX (k:γ→Option β)(m:(γ→Option β)→Option β):dW k m=m k:=Eq.trans rfl rfl
theorem yF (x y:Option β):gU true x y=x:=Eq.trans rfl rfl
theorem yE (x y:Option β):gU false x y=y:=Eq.trans rfl rfl
theorem aFx (x y:Bool):gU x (some x) (some y)=some (x || y):=by cases x<;>rfl
theorem aY (x y:Bool):gU x (some true) (some y)=some (x || y):=by cases x<;>rfl
theorem rE (x y:Bool):gU x (some y) (some false)=some (x && y):=by cases x<;>rfl
theorem iteB_id (x:Bool):gU x (some true) (some false)=some x:=by cases x<;>rfl
theorem wB (p:Prop) [Decidable p] (x y:Option β):gU (decide p) x y=if p then x else y:=by by_cases h:p<;>simp [h,gU]
theorem bU (b:Bool)(x y:Option β):gU b x y=if b=true then x else y:=by cases b<;>rfl
theorem xQ {l:List α}{i:Nat}{x:α}(h:l[i]? =some x):at' l (i:Int)=some x:=by unfold at'; rw [if_pos (by omega),Int.toNat_natCast]; exact h
theorem aAp (l:List α)(i:Nat):at' l (i:Int)=l[i]? :=by unfold at'; rw [if_pos (by omega),Int.toNat_natCast]
def aBe (f:Nat→α→σ→σ ⊕ Option β)(fin:σ→Option β):List α→Nat→σ→Option β
  | [],_,s=>fin s
  | x :: l,i,s=>match f i x s with
    | .inl s'=>aBe f fin l (i+1) s'
    | .inr r=>r
theorem aGy {body:(γ→Option β)→γ→Option β}(enc:Nat→σ→γ)(l:List α)(f:Nat→α→σ→σ ⊕ Option β)(fin:σ→Option β)
    (h: ∀k i s x,l[i]? =some x→body k (enc i s)=match f i x s with | .inl s'=>k (enc (i+1) s') | .inr r=>r)(hx: ∀k s,body k (enc l.length s)=fin s):
    ∀(d i:Nat) (s:σ) (n:Nat),i+d=l.length→d<n→fK body n (enc i s)=aBe f fin (l.drop i) i s
  | 0,i,s,n,hd,hn=>by
    obtain ⟨m,rfl⟩: ∃m,n=m+1:=⟨n - 1,by omega⟩
    obtain rfl:i=l.length:=by omega
    rw [fK,hx,List.drop_length]; rfl
  | d+1,i,s,n,hd,hn=>by
    obtain ⟨m,rfl⟩: ∃m,n=m+1:=⟨n - 1,by omega⟩
    have hi:i<l.length:=by omega
    rw [fK,h _ i s l[i] (List.getElem?_eq_getElem hi),List.drop_eq_getElem_cons hi,aBe]
    cases f i l[i] s with
    | inl s'=>exact aGy enc l f fin h hx d (i+1) s' m (by omega) (by omega)
    | inr r=>rfl
theorem vJ {n:Nat}(h:n≤9223372036854775807):n<FU:=by unfold FU; omega
theorem nM {body:(γ→Option β)→γ→Option β}(enc:Nat→σ→γ)(l:List α)(f:Nat→α→σ→σ ⊕ Option β)(fin:σ→Option β)(hl:l.length≤9223372036854775807)
    (h: ∀k i s x,l[i]? =some x→body k (enc i s)=match f i x s with | .inl s'=>k (enc (i+1) s') | .inr r=>r)(hx: ∀k s,body k (enc l.length s)=fin s)(s:σ):
    fV body (enc 0 s)=aBe f fin l 0 s:=by
 unfold fV;have:=aGy enc l f fin h hx l.length 0 s FU (by omega) (vJ hl);rwa [List.drop_zero] at this
end
theorem eH {i n:Nat}(h:i<n)(hn:n≤9223372036854775807):IntKind.i64.wrap ((i:Int)+1)=((i+1:Nat):Int):=by rw [Go.OB.wrap_i64 (by omega) (by omega)]; omega
end Go.Lf
namespace Go.Lf
section
variable {α β γ σ:Type}
def dC (q:Nat→α→Option (Option β))(fin:Option β):List α→Nat→Option β
  | [],_=>fin
  | x :: l,i=>match q i x with
    | some r=>r
    | none=>dC q fin l (i+1)
theorem aDr {f:Nat→α→Unit→Unit ⊕ Option β}{fin:Unit→Option β}(q:Nat→α→Option (Option β))(hf: ∀i x,f i x ()=match q i x with | some r=> .inr r | none=> .inl ()):
    ∀(l:List α) (i:Nat),aBe f fin l i ()=dC q (fin ()) l i
  | [],i=>rfl
  | x :: l,i=>by
    rw [aBe,dC,hf]
    cases q i x with
    | none=>exact aDr q hf l (i+1)
    | some r=>rfl
theorem xU {body:(Int→Option β)→Int→Option β}(l:List α)(q:Nat→α→Option (Option β))(fin:Option β)(hl:l.length≤9223372036854775807)
    (h: ∀k (i:Nat) x,l[i]? =some x→i<l.length→body k (i:Int)=match q i x with | some r=>r | none=>k ((i+1:Nat):Int))(hx: ∀k,body k (l.length:Int)=fin):fV body 0=dC q fin l 0:=by
  rw [← aDr (f:=fun i x _=>match q i x with | some r=> .inr r | none=> .inl ()) (fin:=fun _=>fin) q (fun _ _=>rfl)]
  refine nM (fun (i:Nat) (_:Unit)=>(i:Int)) l _ _ hl (fun k i s x hx'=>?_) (fun k s=>hx k) ()
  rw [h k i x hx' (List.getElem?_eq_some_iff.1 hx').1]
  cases q i x<;>rfl
def bV (p:Nat→α→Bool):List α→Nat→Bool
  | [],_=>false
  | x :: l,i=>p i x || bV p l (i+1)
theorem qH (p:Nat→α→Bool)(r fin:Option β): ∀(l:List α) (i:Nat),dC (fun i x=>if p i x=true then some r else none) fin l i=if bV p l i=true then r else fin
  | [],i=>rfl
  | x :: l,i=>by
    rw [dC,bV]
    cases hp:p i x with
    | true=>simp
    | false=>simp only [Bool.false_or,Bool.false_eq_true,if_false]; exact qH p r fin l (i+1)
theorem qP (p : Nat → α → Bool) : ∀ (l : List α) (i : Nat), bV p l i = true ↔ ∃ j x, l[j]? = some x ∧ p (i + j) x = true
  | [], i => by simp [bV]
  | x :: l, i => by
    rw [bV, Bool.or_eq_true, qP p l (i + 1)]
    constructor
    · rintro (h | ⟨j, y, h1, h2⟩)
      · exact ⟨0, x, rfl, by simpa using h⟩
      · exact ⟨j + 1, y, by simpa using h1, by rwa [show i + (j + 1) = i + 1 + j by omega]⟩
    · rintro ⟨j, y, h1, h2⟩
      cases j with
      | zero => simp at h1; subst h1; exact .inl (by simpa using h2)
      | succ j => exact .inr ⟨j, y, by simpa using h1, by rwa [show i + 1 + j = i + (j + 1) by omega]⟩
theorem aHy {p q:Nat→α→Bool}: ∀(l:List α) (i:Nat),(∀j x,l[j]? =some x→p (i+j) x=q (i+j) x)→bV p l i=bV q l i
  | [],i,_=>rfl
  | x :: l,i,h=>by
    have h0:=h 0 x rfl
    rw [Nat.add_zero] at h0
    have h1:=aHy (p:=p) (q:=q) l (i+1) (fun j y hj=>by have:=h (j+1) y (by simpa using hj); rwa [show i+(j+1)=i+1+j by omega] at this)
    rw [bV,bV,h0,h1]
theorem xE {i n:Nat}(h:i<n):decide ((i:Int)<(n:Int))=true:=decide_eq_true (by omega)
theorem xH (n:Nat):decide ((n:Int)<(n:Int))=false:=decide_eq_false (by omega)
theorem aIk {s:Str}{i:Nat}{c:UInt8}(h:s[i]? =some c):byte' s (i:Int)=some (c.toNat:Int):=by unfold byte'; rw [aAp,h]; rfl
theorem aMg (l:List α){i:Nat}(h:i≤l.length):sub' l 0 (i:Int)=some (l.take i):=by
 unfold sub';rw [if_pos (by omega)];simp
end
end Go.Lf
namespace Go.Lf
section
variable {α β γ σ:Type}
theorem aJj {g:σ→α→σ}{fin:σ→Option β}: ∀(l:List α) (i:Nat) (s:σ),aBe (fun _ x s=> .inl (g s x)) fin l i s=fin (l.foldl g s)
  | [],_,_=>rfl
  | x :: l,i,s=>by rw [aBe]; exact aJj l (i+1) (g s x)
theorem aRq {body:(γ→Option β)→γ→Option β}(enc:Nat→σ→γ)(l:List α)(g:σ→α→σ)(fin:σ→Option β)(hl:l.length≤9223372036854775807)
    (h: ∀k i s x,l[i]? =some x→i<l.length→body k (enc i s)=k (enc (i+1) (g s x)))(hx: ∀k s,body k (enc l.length s)=fin s)(s:σ):fV body (enc 0 s)=fin (l.foldl g s):=by
 rw [← aJj (g:=g) (fin:=fin) l 0 s];exact nM enc l _ _ hl (fun k i s x hx'=>h k i s x hx' (List.getElem?_eq_some_iff.1 hx').1) hx s
theorem bI {body:(γ→Option β)→γ→Option β}(enc:Nat→γ)(l:List α)(fin:Option β)(hl:l.length≤9223372036854775807)
    (h: ∀k i x,l[i]? =some x→i<l.length→body k (enc i)=k (enc (i+1)))(hx: ∀k,body k (enc l.length)=fin):fV body (enc 0)=fin:=
  aRq (σ:=Unit) (fun i _=>enc i) l (fun _ _=>()) (fun _=>fin) hl (fun k i _ x h1 h2=>h k i x h1 h2) (fun k _=>hx k) ()
end
end Go.Lf
namespace Go.Lf
section
variable {α β γ σ:Type}
theorem aKg {body:(γ→Option β)→γ→Option β}(enc:Nat→σ→γ)(l:List α)(I:Nat→σ→Prop)(R:β→Prop)
    (h: ∀k i s x,l[i]? =some x→i<l.length→I i s→ ∃s',I (i+1) s'∧body k (enc i s)=k (enc (i+1) s'))(hx: ∀k s,I l.length s→ ∃r,body k (enc l.length s)=some r∧R r):
    ∀(d i:Nat) (s:σ) (n:Nat),i+d=l.length→d<n→I i s→ ∃r,fK body n (enc i s)=some r∧R r
  | 0,i,s,n,hd,hn,hI=>by
    obtain ⟨m,rfl⟩: ∃m,n=m+1:=⟨n - 1,by omega⟩
    obtain rfl:i=l.length:=by omega
    rw [fK]; exact hx _ s hI
  | d+1,i,s,n,hd,hn,hI=>by
    obtain ⟨m,rfl⟩: ∃m,n=m+1:=⟨n - 1,by omega⟩
    have hi:i<l.length:=by omega
    obtain ⟨s',h1,h2⟩:=h (fK body m) i s l[i] (List.getElem?_eq_getElem hi) hi hI
    rw [fK,h2]
    exact aKg enc l I R h hx d (i+1) s' m (by omega) (by omega) h1
theorem dS {body:(γ→Option β)→γ→Option β}(enc:Nat→σ→γ)(l:List α)(I:Nat→σ→Prop)(R:β→Prop)(hl:l.length≤9223372036854775807)
    (h: ∀k i s x,l[i]? =some x→i<l.length→I i s→ ∃s',I (i+1) s'∧body k (enc i s)=k (enc (i+1) s'))(hx: ∀k s,I l.length s→ ∃r,body k (enc l.length s)=some r∧R r)(s:σ)(h0:I 0 s):
    ∃r,fV body (enc 0 s)=some r∧R r:=aKg enc l I R h hx l.length 0 s FU (by omega) (vJ hl) h0
theorem aLs (A:List α)(x y:α)(B:List α)(n:Nat)(h:A.length=n):set' (A++x :: B) (n:Int) y=some (A++y :: B):=by
 subst h;unfold set';rw [if_pos ⟨by omega,by simp; omega⟩];simp
theorem aLk (A:List α)(x:α)(B:List α)(n:Nat)(h:A.length=n):at' (A++x :: B) (n:Int)=some x:=by
 subst h;exact xQ (by simp)
end
end Go.Lf
