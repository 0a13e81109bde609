/- Plain laws of the plain functions' parts. -/
import Derived.Test.YthllgjnlmjpinaaGreatDoorLfP
namespace Go.Lf
section
variable {α β γ σ:Type}
theorem zX (a:α)(k:α→Option β):gJ a k=k a:=Eq.trans rfl rfl
theorem zL (a:α)(k:α→Option β):gB (some a) k=k a:=Eq.trans rfl rfl
theorem wK (k:γ→Option β)(m:(γ→Option β)→Option β):dZ k m=m k:=Eq.trans rfl rfl
theorem yN (x y:Option β):gQ true x y=x:=Eq.trans rfl rfl
theorem yO (x y:Option β):gQ false x y=y:=Eq.trans rfl rfl
theorem aCj (x y:Bool):gQ x (some x) (some y)=some (x || y):=by cases x<;>rfl
theorem nN (x y:Bool):gQ x (some true) (some y)=some (x || y):=by cases x<;>rfl
theorem qE (x y:Bool):gQ x (some y) (some false)=some (x && y):=by cases x<;>rfl
theorem iteB_id (x:Bool):gQ x (some true) (some false)=some x:=by cases x<;>rfl
theorem wI (p:Prop) [Decidable p] (x y:Option β):gQ (decide p) x y=if p then x else y:=by by_cases h:p<;>simp [h,gQ]
theorem bZ (b:Bool)(x y:Option β):gQ b x y=if b=true then x else y:=by cases b<;>rfl
theorem wH {l:List α}{i:Nat}{x:α}(h:l[i]? =some x):at' l (i:Int)=some x:=by unfold at'; rw [if_pos (by omega),Int.toNat_natCast]; exact h
theorem aDg (l:List α)(i:Nat):at' l (i:Int)=l[i]? :=by unfold at'; rw [if_pos (by omega),Int.toNat_natCast]
def uO (f:Nat→α→σ→σ ⊕ Option β)(fin:σ→Option β):List α→Nat→σ→Option β
  | [],_,s=>fin s
  | x :: l,i,s=>match f i x s with
    | .inl s'=>uO f fin l (i+1) s'
    | .inr r=>r
theorem aFc {body:(γ→Option β)→γ→Option β}(enc:Nat→σ→γ)(l:List α)(f:Nat→α→σ→σ ⊕ Option β)(fin:σ→Option β)
    (h: ∀k i s x,l[i]? =some x→body k (enc i s)=match f i x s with | .inl s'=>k (enc (i+1) s') | .inr r=>r)(hx: ∀k s,body k (enc l.length s)=fin s):
    ∀(d i:Nat) (s:σ) (n:Nat),i+d=l.length→d<n→fQ body n (enc i s)=uO f fin (l.drop i) i s
  | 0,i,s,n,hd,hn=>by
    obtain ⟨m,rfl⟩: ∃m,n=m+1:=⟨n - 1,by omega⟩
    obtain rfl:i=l.length:=by omega
    rw [fQ,hx,List.drop_length]; rfl
  | d+1,i,s,n,hd,hn=>by
    obtain ⟨m,rfl⟩: ∃m,n=m+1:=⟨n - 1,by omega⟩
    have hi:i<l.length:=by omega
    rw [fQ,h _ i s l[i] (List.getElem?_eq_getElem hi),List.drop_eq_getElem_cons hi,uO]
    cases f i l[i] s with
    | inl s'=>exact aFc enc l f fin h hx d (i+1) s' m (by omega) (by omega)
    | inr r=>rfl
theorem aAm {n:Nat}(h:n≤9223372036854775807):n<FU:=by unfold FU; omega
theorem nS {body:(γ→Option β)→γ→Option β}(enc:Nat→σ→γ)(l:List α)(f:Nat→α→σ→σ ⊕ Option β)(fin:σ→Option β)(hl:l.length≤9223372036854775807)
    (h: ∀k i s x,l[i]? =some x→body k (enc i s)=match f i x s with | .inl s'=>k (enc (i+1) s') | .inr r=>r)(hx: ∀k s,body k (enc l.length s)=fin s)(s:σ):
    fZ body (enc 0 s)=uO f fin l 0 s:=by
  unfold fZ
  have:=aFc enc l f fin h hx l.length 0 s FU (by omega) (aAm hl)
  rwa [List.drop_zero] at this
end
theorem eF {i n:Nat}(h:i<n)(hn:n≤9223372036854775807):IntKind.i64.wrap ((i:Int)+1)=((i+1:Nat):Int):=by rw [Go.OB.wrap_i64 (by omega) (by omega)]; omega
end Go.Lf
namespace Go.Lf
section
variable {α β γ σ:Type}
def eH (q:Nat→α→Option (Option β))(fin:Option β):List α→Nat→Option β
  | [],_=>fin
  | x :: l,i=>match q i x with
    | some r=>r
    | none=>eH q fin l (i+1)
theorem aFt {f:Nat→α→Unit→Unit ⊕ Option β}{fin:Unit→Option β}(q:Nat→α→Option (Option β))(hf: ∀i x,f i x ()=match q i x with | some r=> .inr r | none=> .inl ()):
    ∀(l:List α) (i:Nat),uO f fin l i ()=eH q (fin ()) l i
  | [],i=>rfl
  | x :: l,i=>by
    rw [uO,eH,hf]
    cases q i x with
    | none=>exact aFt q hf l (i+1)
    | some r=>rfl
theorem wJ {body:(Int→Option β)→Int→Option β}(l:List α)(q:Nat→α→Option (Option β))(fin:Option β)(hl:l.length≤9223372036854775807)
    (h: ∀k (i:Nat) x,l[i]? =some x→i<l.length→body k (i:Int)=match q i x with | some r=>r | none=>k ((i+1:Nat):Int))(hx: ∀k,body k (l.length:Int)=fin):fZ body 0=eH q fin l 0:=by
  rw [← aFt (f:=fun i x _=>match q i x with | some r=> .inr r | none=> .inl ()) (fin:=fun _=>fin) q (fun _ _=>rfl)]
  refine nS (fun (i:Nat) (_:Unit)=>(i:Int)) l _ _ hl (fun k i s x hx'=>?_) (fun k s=>hx k) ()
  rw [h k i x hx' (List.getElem?_eq_some_iff.1 hx').1]
  cases q i x<;>rfl
def jP (p:Nat→α→Bool):List α→Nat→Bool
  | [],_=>false
  | x :: l,i=>p i x || jP p l (i+1)
theorem aGm (p:Nat→α→Bool)(r fin:Option β): ∀(l:List α) (i:Nat),eH (fun i x=>if p i x=true then some r else none) fin l i=if jP p l i=true then r else fin
  | [],i=>rfl
  | x :: l,i=>by
    rw [eH,jP]
    cases hp:p i x with
    | true=>simp
    | false=>simp only [Bool.false_or,Bool.false_eq_true,if_false]; exact aGm p r fin l (i+1)
theorem wW (p : Nat → α → Bool) : ∀ (l : List α) (i : Nat), jP p l i = true ↔ ∃ j x, l[j]? = some x ∧ p (i + j) x = true
  | [], i => by simp [jP]
  | x :: l, i => by
    rw [jP, Bool.or_eq_true, wW p l (i + 1)]
    constructor
    · rintro (h | ⟨j, y, h1, h2⟩)
      · exact ⟨0, x, rfl, by simpa using h⟩
      · exact ⟨j + 1, y, by simpa using h1, by rwa [show i + (j + 1) = i + 1 + j by omega]⟩
    · rintro ⟨j, y, h1, h2⟩
      cases j with
      | zero => simp at h1; subst h1; exact .inl (by simpa using h2)
      | succ j => exact .inr ⟨j, y, by simpa using h1, by rwa [show i + 1 + j = i + (j + 1) by omega]⟩
theorem xP {i n:Nat}(h:i<n):decide ((i:Int)<(n:Int))=true:=decide_eq_true (by omega)
theorem xU (n:Nat):decide ((n:Int)<(n:Int))=false:=decide_eq_false (by omega)
theorem aJx {s:Str}{i:Nat}{c:UInt8}(h:s[i]? =some c):byte' s (i:Int)=some (c.toNat:Int):=by unfold byte'; rw [aDg,h]; rfl
theorem aHw (l:List α){i:Nat}(h:i≤l.length):sub' l 0 (i:Int)=some (l.take i):=by
  unfold sub'
  rw [if_pos (by omega)]
  simp
end
end Go.Lf
namespace Go.Lf
section
variable {α β γ σ:Type}
theorem aGn {g:σ→α→σ}{fin:σ→Option β}: ∀(l:List α) (i:Nat) (s:σ),uO (fun _ x s=> .inl (g s x)) fin l i s=fin (l.foldl g s)
  | [],_,_=>rfl
  | x :: l,i,s=>by rw [uO]; exact aGn l (i+1) (g s x)
theorem aMx {body:(γ→Option β)→γ→Option β}(enc:Nat→σ→γ)(l:List α)(g:σ→α→σ)(fin:σ→Option β)(hl:l.length≤9223372036854775807)
    (h: ∀k i s x,l[i]? =some x→i<l.length→body k (enc i s)=k (enc (i+1) (g s x)))(hx: ∀k s,body k (enc l.length s)=fin s)(s:σ):fZ body (enc 0 s)=fin (l.foldl g s):=by
  rw [← aGn (g:=g) (fin:=fin) l 0 s]
  exact nS enc l _ _ hl (fun k i s x hx'=>h k i s x hx' (List.getElem?_eq_some_iff.1 hx').1) hx s
theorem cZ {body:(γ→Option β)→γ→Option β}(enc:Nat→γ)(l:List α)(fin:Option β)(hl:l.length≤9223372036854775807)
    (h: ∀k i x,l[i]? =some x→i<l.length→body k (enc i)=k (enc (i+1)))(hx: ∀k,body k (enc l.length)=fin):fZ body (enc 0)=fin:=
  aMx (σ:=Unit) (fun i _=>enc i) l (fun _ _=>()) (fun _=>fin) hl (fun k i _ x h1 h2=>h k i x h1 h2) (fun k _=>hx k) ()
end
end Go.Lf
