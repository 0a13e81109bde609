/- Plain laws of the plain functions' parts. -/
import Derived.Test.YthllgjnlmjpinaaGreatDoorLfP
namespace Go.Lf
section
variable {α β γ σ:Type}
theorem zV (a:α)(k:α→Option β):gQ a k=k a:=Eq.trans rfl rfl
theorem zL (a:α)(k:α→Option β):gB (some a) k=k a:=Eq.trans rfl rfl
theorem wK (k:γ→Option β)(m:(γ→Option β)→Option β):bD k m=m k:=Eq.trans rfl rfl
theorem yN (x y:Option β):gU true x y=x:=Eq.trans rfl rfl
theorem yM (x y:Option β):gU false x y=y:=Eq.trans rfl rfl
theorem aCr (x y:Bool):gU x (some x) (some y)=some (x || y):=by cases x<;>rfl
theorem mP (x y:Bool):gU x (some true) (some y)=some (x || y):=by cases x<;>rfl
theorem qE (x y:Bool):gU x (some y) (some false)=some (x && y):=by cases x<;>rfl
theorem iteB_id (x:Bool):gU x (some true) (some false)=some x:=by cases x<;>rfl
theorem wI (p:Prop) [Decidable p] (x y:Option β):gU (decide p) x y=if p then x else y:=by by_cases h:p<;>simp [h,gU]
theorem bT (b:Bool)(x y:Option β):gU b x y=if b=true then x else y:=by cases b<;>rfl
theorem xZ {l:List α}{i:Nat}{x:α}(h:l[i]? =some x):at' l (i:Int)=some x:=by unfold at'; rw [if_pos (by omega),Int.toNat_natCast]; exact h
theorem aFr (l:List α)(i:Nat):at' l (i:Int)=l[i]? :=by unfold at'; rw [if_pos (by omega),Int.toNat_natCast]
def vV (f:Nat→α→σ→σ ⊕ Option β)(fin:σ→Option β):List α→Nat→σ→Option β
  | [],_,s=>fin s
  | x :: l,i,s=>match f i x s with
    | .inl s'=>vV f fin l (i+1) s'
    | .inr r=>r
theorem aDo {body:(γ→Option β)→γ→Option β}(enc:Nat→σ→γ)(l:List α)(f:Nat→α→σ→σ ⊕ Option β)(fin:σ→Option β)
    (h: ∀k i s x,l[i]? =some x→body k (enc i s)=match f i x s with | .inl s'=>k (enc (i+1) s') | .inr r=>r)(hx: ∀k s,body k (enc l.length s)=fin s):
    ∀(d i:Nat) (s:σ) (n:Nat),i+d=l.length→d<n→fV body n (enc i s)=vV f fin (l.drop i) i s
  | 0,i,s,n,hd,hn=>by
    obtain ⟨m,rfl⟩: ∃m,n=m+1:=⟨n - 1,by omega⟩
    obtain rfl:i=l.length:=by omega
    rw [fV,hx,List.drop_length]; rfl
  | d+1,i,s,n,hd,hn=>by
    obtain ⟨m,rfl⟩: ∃m,n=m+1:=⟨n - 1,by omega⟩
    have hi:i<l.length:=by omega
    rw [fV,h _ i s l[i] (List.getElem?_eq_getElem hi),List.drop_eq_getElem_cons hi,vV]
    cases f i l[i] s with
    | inl s'=>exact aDo enc l f fin h hx d (i+1) s' m (by omega) (by omega)
    | inr r=>rfl
theorem vU {n:Nat}(h:n≤9223372036854775807):n<FU:=by unfold FU; omega
theorem nR {body:(γ→Option β)→γ→Option β}(enc:Nat→σ→γ)(l:List α)(f:Nat→α→σ→σ ⊕ Option β)(fin:σ→Option β)(hl:l.length≤9223372036854775807)
    (h: ∀k i s x,l[i]? =some x→body k (enc i s)=match f i x s with | .inl s'=>k (enc (i+1) s') | .inr r=>r)(hx: ∀k s,body k (enc l.length s)=fin s)(s:σ):
    eF body (enc 0 s)=vV f fin l 0 s:=by
  unfold eF
  have:=aDo enc l f fin h hx l.length 0 s FU (by omega) (vU hl)
  rwa [List.drop_zero] at this
end
theorem eG {i n:Nat}(h:i<n)(hn:n≤9223372036854775807):IntKind.i64.wrap ((i:Int)+1)=((i+1:Nat):Int):=by rw [Go.OB.wrap_i64 (by omega) (by omega)]; omega
end Go.Lf
namespace Go.Lf
section
variable {α β γ σ:Type}
def eH (q:Nat→α→Option (Option β))(fin:Option β):List α→Nat→Option β
  | [],_=>fin
  | x :: l,i=>match q i x with
    | some r=>r
    | none=>eH q fin l (i+1)
theorem aHk {f:Nat→α→Unit→Unit ⊕ Option β}{fin:Unit→Option β}(q:Nat→α→Option (Option β))(hf: ∀i x,f i x ()=match q i x with | some r=> .inr r | none=> .inl ()):
    ∀(l:List α) (i:Nat),vV f fin l i ()=eH q (fin ()) l i
  | [],i=>rfl
  | x :: l,i=>by
    rw [vV,eH,hf]
    cases q i x with
    | none=>exact aHk q hf l (i+1)
    | some r=>rfl
theorem xY {body:(Int→Option β)→Int→Option β}(l:List α)(q:Nat→α→Option (Option β))(fin:Option β)(hl:l.length≤9223372036854775807)
    (h: ∀k (i:Nat) x,l[i]? =some x→i<l.length→body k (i:Int)=match q i x with | some r=>r | none=>k ((i+1:Nat):Int))(hx: ∀k,body k (l.length:Int)=fin):eF body 0=eH q fin l 0:=by
  rw [← aHk (f:=fun i x _=>match q i x with | some r=> .inr r | none=> .inl ()) (fin:=fun _=>fin) q (fun _ _=>rfl)]
  refine nR (fun (i:Nat) (_:Unit)=>(i:Int)) l _ _ hl (fun k i s x hx'=>?_) (fun k s=>hx k) ()
  rw [h k i x hx' (List.getElem?_eq_some_iff.1 hx').1]
  cases q i x<;>rfl
def aX (p:Nat→α→Bool):List α→Nat→Bool
  | [],_=>false
  | x :: l,i=>p i x || aX p l (i+1)
theorem aGq (p:Nat→α→Bool)(r fin:Option β): ∀(l:List α) (i:Nat),eH (fun i x=>if p i x=true then some r else none) fin l i=if aX p l i=true then r else fin
  | [],i=>rfl
  | x :: l,i=>by
    rw [eH,aX]
    cases hp:p i x with
    | true=>simp
    | false=>simp only [Bool.false_or,Bool.false_eq_true,if_false]; exact aGq p r fin l (i+1)
theorem pY (p : Nat → α → Bool) : ∀ (l : List α) (i : Nat), aX p l i = true ↔ ∃ j x, l[j]? = some x ∧ p (i + j) x = true
  | [], i => by simp [aX]
  | x :: l, i => by
    rw [aX, Bool.or_eq_true, pY p l (i + 1)]
    constructor
    · rintro (h | ⟨j, y, h1, h2⟩)
      · exact ⟨0, x, rfl, by simpa using h⟩
      · exact ⟨j + 1, y, by simpa using h1, by rwa [show i + (j + 1) = i + 1 + j by omega]⟩
    · rintro ⟨j, y, h1, h2⟩
      cases j with
      | zero => simp at h1; subst h1; exact .inl (by simpa using h2)
      | succ j => exact .inr ⟨j, y, by simpa using h1, by rwa [show i + 1 + j = i + (j + 1) by omega]⟩
theorem xN {i n:Nat}(h:i<n):decide ((i:Int)<(n:Int))=true:=decide_eq_true (by omega)
theorem xQ (n:Nat):decide ((n:Int)<(n:Int))=false:=decide_eq_false (by omega)
theorem aMq {s:Str}{i:Nat}{c:UInt8}(h:s[i]? =some c):byte' s (i:Int)=some (c.toNat:Int):=by unfold byte'; rw [aFr,h]; rfl
theorem aCt (l:List α){i:Nat}(h:i≤l.length):sub' l 0 (i:Int)=some (l.take i):=by
  unfold sub'
  rw [if_pos (by omega)]
  simp
end
end Go.Lf
namespace Go.Lf
section
variable {α β γ σ:Type}
theorem aGn {g:σ→α→σ}{fin:σ→Option β}: ∀(l:List α) (i:Nat) (s:σ),vV (fun _ x s=> .inl (g s x)) fin l i s=fin (l.foldl g s)
  | [],_,_=>rfl
  | x :: l,i,s=>by rw [vV]; exact aGn l (i+1) (g s x)
theorem aNl {body:(γ→Option β)→γ→Option β}(enc:Nat→σ→γ)(l:List α)(g:σ→α→σ)(fin:σ→Option β)(hl:l.length≤9223372036854775807)
    (h: ∀k i s x,l[i]? =some x→i<l.length→body k (enc i s)=k (enc (i+1) (g s x)))(hx: ∀k s,body k (enc l.length s)=fin s)(s:σ):eF body (enc 0 s)=fin (l.foldl g s):=by
  rw [← aGn (g:=g) (fin:=fin) l 0 s]
  exact nR enc l _ _ hl (fun k i s x hx'=>h k i s x hx' (List.getElem?_eq_some_iff.1 hx').1) hx s
theorem bC {body:(γ→Option β)→γ→Option β}(enc:Nat→γ)(l:List α)(fin:Option β)(hl:l.length≤9223372036854775807)
    (h: ∀k i x,l[i]? =some x→i<l.length→body k (enc i)=k (enc (i+1)))(hx: ∀k,body k (enc l.length)=fin):eF body (enc 0)=fin:=
  aNl (σ:=Unit) (fun i _=>enc i) l (fun _ _=>()) (fun _=>fin) hl (fun k i _ x h1 h2=>h k i x h1 h2) (fun k _=>hx k) ()
end
end Go.Lf
