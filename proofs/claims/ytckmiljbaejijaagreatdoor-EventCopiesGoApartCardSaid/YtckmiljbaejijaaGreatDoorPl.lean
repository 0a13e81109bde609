/- Plain laws of the plain functions' parts. -/
import Derived.Test.YtckmiljbaejijaaGreatDoorLfP
namespace Go.Lf
section
variable {α β γ σ:Type}
theorem yD (a:α)(k:α→Option β):gQ a k=k a:=Eq.trans rfl rfl
theorem zW (a:α)(k:α→Option β):gG (some a) k=k a:=Eq.trans rfl rfl
theorem dF (k:γ→Option β)(m:(γ→Option β)→Option β):aI k m=m k:=Eq.trans rfl rfl
theorem yZ (x y:Option β):gX true x y=x:=Eq.trans rfl rfl
theorem xC (x y:Option β):gX false x y=y:=Eq.trans rfl rfl
theorem iteB_or (x y:Bool):gX x (some x) (some y)=some (x || y):=by cases x<;>rfl
theorem iteB_or2 (x y:Bool):gX x (some true) (some y)=some (x || y):=by cases x<;>rfl
theorem iteB_and (x y:Bool):gX x (some y) (some false)=some (x && y):=by cases x<;>rfl
theorem iteB_id (x:Bool):gX x (some true) (some false)=some x:=by cases x<;>rfl
theorem wI (p:Prop) [Decidable p] (x y:Option β):gX (decide p) x y=if p then x else y:=by by_cases h:p<;>simp [h,gX]
theorem iteB_ite (b:Bool)(x y:Option β):gX b x y=if b=true then x else y:=by cases b<;>rfl
theorem dL {l:List α}{i:Nat}{x:α}(h:l[i]? =some x):at' l (i:Int)=some x:=by unfold at'; rw [if_pos (by omega),Int.toNat_natCast]; exact h
theorem at_nat (l:List α)(i:Nat):at' l (i:Int)=l[i]? :=by unfold at'; rw [if_pos (by omega),Int.toNat_natCast]
def runL (f:Nat→α→σ→σ ⊕ Option β)(fin:σ→Option β):List α→Nat→σ→Option β
  | [],_,s=>fin s
  | x :: l,i,s=>match f i x s with
    | .inl s'=>runL f fin l (i+1) s'
    | .inr r=>r
theorem loopN_runL {body:(γ→Option β)→γ→Option β}(enc:Nat→σ→γ)(l:List α)(f:Nat→α→σ→σ ⊕ Option β)(fin:σ→Option β)
    (h: ∀k i s x,l[i]? =some x→body k (enc i s)=match f i x s with | .inl s'=>k (enc (i+1) s') | .inr r=>r)(hx: ∀k s,body k (enc l.length s)=fin s):
    ∀(d i:Nat) (s:σ) (n:Nat),i+d=l.length→d<n→eF body n (enc i s)=runL f fin (l.drop i) i s
  | 0,i,s,n,hd,hn=>by
    obtain ⟨m,rfl⟩: ∃m,n=m+1:=⟨n - 1,by omega⟩
    obtain rfl:i=l.length:=by omega
    rw [eF,hx,List.drop_length]; rfl
  | d+1,i,s,n,hd,hn=>by
    obtain ⟨m,rfl⟩: ∃m,n=m+1:=⟨n - 1,by omega⟩
    have hi:i<l.length:=by omega
    rw [eF,h _ i s l[i] (List.getElem?_eq_getElem hi),List.drop_eq_getElem_cons hi,runL]
    cases f i l[i] s with
    | inl s'=>exact loopN_runL enc l f fin h hx d (i+1) s' m (by omega) (by omega)
    | inr r=>rfl
theorem FU_big {n:Nat}(h:n≤9223372036854775807):n<FU:=by unfold FU; omega
theorem loopO_runL {body:(γ→Option β)→γ→Option β}(enc:Nat→σ→γ)(l:List α)(f:Nat→α→σ→σ ⊕ Option β)(fin:σ→Option β)(hl:l.length≤9223372036854775807)
    (h: ∀k i s x,l[i]? =some x→body k (enc i s)=match f i x s with | .inl s'=>k (enc (i+1) s') | .inr r=>r)(hx: ∀k s,body k (enc l.length s)=fin s)(s:σ):
    eG body (enc 0 s)=runL f fin l 0 s:=by
  unfold eG
  have:=loopN_runL enc l f fin h hx l.length 0 s FU (by omega) (FU_big hl)
  rwa [List.drop_zero] at this
end
theorem dG {i n:Nat}(h:i<n)(hn:n≤9223372036854775807):IntKind.i64.wrap ((i:Int)+1)=((i+1:Nat):Int):=by rw [Go.OB.wrap_i64 (by omega) (by omega)]; omega
end Go.Lf
namespace Go.Lf
section
variable {α β γ σ:Type}
def cO (q:Nat→α→Option (Option β))(fin:Option β):List α→Nat→Option β
  | [],_=>fin
  | x :: l,i=>match q i x with
    | some r=>r
    | none=>cO q fin l (i+1)
theorem runL_find {f:Nat→α→Unit→Unit ⊕ Option β}{fin:Unit→Option β}(q:Nat→α→Option (Option β))(hf: ∀i x,f i x ()=match q i x with | some r=> .inr r | none=> .inl ()):
    ∀(l:List α) (i:Nat),runL f fin l i ()=cO q (fin ()) l i
  | [],i=>rfl
  | x :: l,i=>by
    rw [runL,cO,hf]
    cases q i x with
    | none=>exact runL_find q hf l (i+1)
    | some r=>rfl
theorem wK {body:(Int→Option β)→Int→Option β}(l:List α)(q:Nat→α→Option (Option β))(fin:Option β)(hl:l.length≤9223372036854775807)
    (h: ∀k (i:Nat) x,l[i]? =some x→i<l.length→body k (i:Int)=match q i x with | some r=>r | none=>k ((i+1:Nat):Int))(hx: ∀k,body k (l.length:Int)=fin):eG body 0=cO q fin l 0:=by
  rw [← runL_find (f:=fun i x _=>match q i x with | some r=> .inr r | none=> .inl ()) (fin:=fun _=>fin) q (fun _ _=>rfl)]
  refine loopO_runL (fun (i:Nat) (_:Unit)=>(i:Int)) l _ _ hl (fun k i s x hx'=>?_) (fun k s=>hx k) ()
  rw [h k i x hx' (List.getElem?_eq_some_iff.1 hx').1]
  cases q i x<;>rfl
def jB (p:Nat→α→Bool):List α→Nat→Bool
  | [],_=>false
  | x :: l,i=>p i x || jB p l (i+1)
theorem findO_any (p:Nat→α→Bool)(r fin:Option β): ∀(l:List α) (i:Nat),cO (fun i x=>if p i x=true then some r else none) fin l i=if jB p l i=true then r else fin
  | [],i=>rfl
  | x :: l,i=>by
    rw [cO,jB]
    cases hp:p i x with
    | true=>simp
    | false=>simp only [Bool.false_or,Bool.false_eq_true,if_false]; exact findO_any p r fin l (i+1)
theorem anyI_iff (p : Nat → α → Bool) : ∀ (l : List α) (i : Nat), jB p l i = true ↔ ∃ j x, l[j]? = some x ∧ p (i + j) x = true
  | [], i => by simp [jB]
  | x :: l, i => by
    rw [jB, Bool.or_eq_true, anyI_iff p l (i + 1)]
    constructor
    · rintro (h | ⟨j, y, h1, h2⟩)
      · exact ⟨0, x, rfl, by simpa using h⟩
      · exact ⟨j + 1, y, by simpa using h1, by rwa [show i + (j + 1) = i + 1 + j by omega]⟩
    · rintro ⟨j, y, h1, h2⟩
      cases j with
      | zero => simp at h1; subst h1; exact .inl (by simpa using h2)
      | succ j => exact .inr ⟨j, y, by simpa using h1, by rwa [show i + 1 + j = i + (j + 1) by omega]⟩
theorem anyI_congr {p q:Nat→α→Bool}: ∀(l:List α) (i:Nat),(∀j x,l[j]? =some x→p (i+j) x=q (i+j) x)→jB p l i=jB q l i
  | [],i,_=>rfl
  | x :: l,i,h=>by
    have h0:=h 0 x rfl
    rw [Nat.add_zero] at h0
    have h1:=anyI_congr (p:=p) (q:=q) l (i+1) (fun j y hj=>by have:=h (j+1) y (by simpa using hj); rwa [show i+(j+1)=i+1+j by omega] at this)
    rw [jB,jB,h0,h1]
theorem wG {i n:Nat}(h:i<n):decide ((i:Int)<(n:Int))=true:=decide_eq_true (by omega)
theorem wF (n:Nat):decide ((n:Int)<(n:Int))=false:=decide_eq_false (by omega)
theorem byte_nat {s:Str}{i:Nat}{c:UInt8}(h:s[i]? =some c):byte' s (i:Int)=some (c.toNat:Int):=by unfold byte'; rw [at_nat,h]; rfl
theorem sub_nat (l:List α){i:Nat}(h:i≤l.length):sub' l 0 (i:Int)=some (l.take i):=by
  unfold sub'
  rw [if_pos (by omega)]
  simp
end
end Go.Lf
namespace Go.Lf
section
variable {α β γ σ:Type}
theorem runL_fold {g:σ→α→σ}{fin:σ→Option β}: ∀(l:List α) (i:Nat) (s:σ),runL (fun _ x s=> .inl (g s x)) fin l i s=fin (l.foldl g s)
  | [],_,_=>rfl
  | x :: l,i,s=>by rw [runL]; exact runL_fold l (i+1) (g s x)
theorem loopO_fold {body:(γ→Option β)→γ→Option β}(enc:Nat→σ→γ)(l:List α)(g:σ→α→σ)(fin:σ→Option β)(hl:l.length≤9223372036854775807)
    (h: ∀k i s x,l[i]? =some x→i<l.length→body k (enc i s)=k (enc (i+1) (g s x)))(hx: ∀k s,body k (enc l.length s)=fin s)(s:σ):eG body (enc 0 s)=fin (l.foldl g s):=by
  rw [← runL_fold (g:=g) (fin:=fin) l 0 s]
  exact loopO_runL enc l _ _ hl (fun k i s x hx'=>h k i s x hx' (List.getElem?_eq_some_iff.1 hx').1) hx s
theorem aX {body:(γ→Option β)→γ→Option β}(enc:Nat→γ)(l:List α)(fin:Option β)(hl:l.length≤9223372036854775807)
    (h: ∀k i x,l[i]? =some x→i<l.length→body k (enc i)=k (enc (i+1)))(hx: ∀k,body k (enc l.length)=fin):eG body (enc 0)=fin:=
  loopO_fold (σ:=Unit) (fun i _=>enc i) l (fun _ _=>()) (fun _=>fin) hl (fun k i _ x h1 h2=>h k i x h1 h2) (fun k _=>hx k) ()
end
end Go.Lf
