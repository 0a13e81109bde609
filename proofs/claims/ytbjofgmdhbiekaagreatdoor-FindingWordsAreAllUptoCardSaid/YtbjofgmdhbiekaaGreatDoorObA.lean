/- Laws that the claim stands on; no condition beyond those stated. -/
import Derived.WalkKit
import Derived.WalkSpells
import Derived.WalkLawsBesides
import Derived.Deep.Quiet
theorem qD {p:Prop} [Decidable p] (h: ¬p):decide p=false:=decide_eq_false h
theorem dT {p:Prop} [Decidable p] (h:p):decide p=true:=decide_eq_true h
theorem qS {f:Type _}{l:List f}{i:Nat}{a:f} (e:l[i]? =some a):a∈l:=List.mem_of_getElem? e
theorem oI {f:Type _}{a b:f} (h:some a=some b):a=b:=Option.some.inj h
theorem gE {f:Type _}{l:List f}{i:Nat} (h:i<l.length):l[i]? =some l[i]:=List.getElem?_eq_getElem h
theorem gS {f:Type _}{l:List f}{i:Nat}{a:f}:l[i]? =some a↔ ∃h:i<l.length,l[i]=a:=List.getElem?_eq_some_iff
theorem mA {f:Type _}{a:f}{s t:List f}:a∈s++t↔a∈s\/a∈t:=List.mem_append
theorem mS {f:Type _}{a b:f}:a∈ [b]↔a=b:=List.mem_singleton
namespace Go.OB
open Go.RowKit

abbrev Env:=Nat->Value
def upd (ρ:Env)(d:Nat)(v:Value):Env:=λi=>if i=d then v else ρ i
def updo (ρ:Env):Option Tmp->Value->Env
 |some d,v=>upd ρ d v
 |none,_=>ρ
def ev (ρ:Env):Operand->Value
 | .tmp t=>ρ t
 | .const v=>v
 | .global g=> .pointer (some ⟨g,0,none⟩)
 | .func f=> .func (.func f) #[] #[]
def aTr (N:Nat):Option Tmp->Bool
 |some d=>decide (d<N)
 |none=>true

structure Fits (N:Nat)(a:Act)(ρ:Env):Prop where
 size:a.tmps.size=N
 dfr:a.defers=[]
 get: ∀i,a.tmps.getD i undef=ρ i

theorem Fits.eval {N:Nat}{a:Act}{ρ:Env}(h:Fits N a ρ):a.eval=ev ρ:=by
 funext x;cases x<;>simp only [Act.eval,ev,h.get]

theorem Fits.put {N:Nat}{a:Act}{ρ:Env}(h:Fits N a ρ){d:Option Tmp}(hd:aTr N d=true)(v:Value):
  Fits N (a.put d v) (updo ρ d v):=by
 cases d with
 |none=>exact h
 |some d=>
  have f:d<a.tmps.size:=by rw [h.size];simpa [aTr]using hd
  refine⟨by simp [Act.put,h.size],by simp [Act.put,h.dfr],λi=>?_⟩;show(a.tmps.setIfInBounds d v).getD i undef=upd ρ d v i;unfold upd;rw [<-h.get i];simp only [Array.getD_eq_getD_getElem?,Array.getElem?_setIfInBounds]
  by_cases hi:i=d
  ·subst hi;simp [f]
  ·simp [hi,Ne.symm hi]

def aEv (N:Nat)(Q:Exit->Env->World->Prop):Exit->Act->World->Prop:=λe a w=> ∃ρ,Fits N a ρ/\Q e ρ w

def WP (P:Program)(N:Nat)(c:Code)(Q:Exit->Env->World->Prop)(ρ:Env)(w:World):Prop:=
 ∀a,Fits N a ρ->c.wp P (aEv N Q) a w

def mZ (K:Env->World->Prop)(Q:Exit->Env->World->Prop):Exit->Env->World->Prop
 | .normal,ρ,w=>K ρ w
 |e,ρ,w=>Q e ρ w

def aGk (id:Nat)(Q:Exit->Env->World->Prop):Exit->Env->World->Prop
 | .exit f,ρ,w=>if f=id then Q .normal ρ w else Q (.exit f) ρ w
 |e,ρ,w=>Q e ρ w

section wp
variable {P:Program}{N:Nat}{Q:Exit->Env->World->Prop}{ρ:Env}{w:World}

theorem WP.mono {c:Code}{Q':Exit->Env->World->Prop}(h:WP P N c Q ρ w)(f: ∀e ρ w,Q e ρ w->Q' e ρ w):WP P N c Q' ρ w:=
 λa l=>wp_mono (h a l) λ_ _ _ ⟨ρ,r,A⟩=>⟨ρ,r,f _ _ _ A⟩

theorem aVw {x y:Code}{K:Env->World->Prop}(h:WP P N x (mZ K Q) ρ w)(A: ∀ρ w,K ρ w->WP P N y Q ρ w):WP P N (.seq x y) Q ρ w:=by
 intro a B;refine wp_seq (wp_mono (h a B) ?_);rintro e C w' ⟨f,l,r⟩
 cases e<;>first |exact A _ _ r C l|exact⟨f,l,r⟩

theorem yX {x y:Code}(h: ∀K:Env->World->Prop,(∀ρ w,WP P N y Q ρ w->K ρ w)->WP P N x (mZ K Q) ρ w):WP P N (.seq x y) Q ρ w:=
 aVw (h _ λ_ _ h=>h) λ_ _ h=>h

theorem yI (h:Q .normal ρ w):WP P N .skip Q ρ w:=λ_ f=>wp_skip ⟨ρ,f,h⟩
theorem yC {id:Nat}(h:Q (.exit id) ρ w):WP P N (.exit id) Q ρ w:=λ_ f=>wp_exit ⟨ρ,f,h⟩
theorem zH (h:Q .ret ρ w):WP P N .ret Q ρ w:=λ_ f=>wp_ret ⟨ρ,f,h⟩

theorem zK {id:Nat}{c:Code}(h:WP P N c (aGk id Q) ρ w):WP P N (.block id c) Q ρ w:=by
 intro a B;refine wp_block (wp_mono (h a B) ?_);rintro e _ w' ⟨f,A,r⟩
 cases e with
 |exit _=>
  simp only [aGk]at r;simp only [Exit.inBlock];split
  ·rename_i l;rw [if_pos l]at r;exact⟨f,A,r⟩
  ·rename_i l;rw [if_neg l]at r;exact⟨f,A,r⟩
 |_=>exact⟨f,A,r⟩

theorem WP_if {c:Operand}{x y:Code}{p:Prop} [Decidable p] (l:ev ρ c= .bool (decide p))(r:p->WP P N x Q ρ w)(A: ¬p->WP P N y Q ρ w):WP P N (.cond c x y) Q ρ w:=by
 intro a f;refine wp_cond_split (t:=decide p) (by rw [f.eval];exact l) (λh=>r (by simpa using h) a f) (λh=>A (by simpa using h) a f)

theorem aDi {c:Operand}{x y:Code}{b:Bool}(l:ev ρ c= .bool b)(r:b=true->WP P N x Q ρ w)(A:b=false->WP P N y Q ρ w):WP P N (.cond c x y) Q ρ w:=by
 intro a f;exact wp_cond_split (t:=b) (by rw [f.eval];exact l) (λh=>r h a f) (λh=>A h a f)

theorem WP_ift {c:Operand}{x y:Code}(l:ev ρ c= .bool true)(h:WP P N x Q ρ w):WP P N (.cond c x y) Q ρ w:=
 λa f=>wp_cond_true (by rw [f.eval];exact l) (h a f)
theorem WP_iff {c:Operand}{x y:Code}(l:ev ρ c= .bool false)(h:WP P N y Q ρ w):WP P N (.cond c x y) Q ρ w:=
 λa f=>wp_cond_false (by rw [f.eval];exact l) (h a f)

theorem zJ {K:Env->World->Prop}(h:K ρ w):mZ K Q .normal ρ w:=h
theorem zG {K:Env->World->Prop}(h:Q .ret ρ w):mZ K Q .ret ρ w:=h
theorem zO {K:Env->World->Prop}{i:Nat}(h:Q (.exit i) ρ w):mZ K Q (.exit i) ρ w:=h
theorem zU {id:Nat}(h:Q .normal ρ w):aGk id Q .normal ρ w:=h
theorem zL {id:Nat}(h:Q .ret ρ w):aGk id Q .ret ρ w:=h
theorem zW {id:Nat}(h:Q .normal ρ w):aGk id Q (.exit id) ρ w:=by simp only [aGk,if_true];exact h
theorem wp_loop_ghost {c:Code}{G:Type}{Q:Exit->Act->World->Prop}{a:Act}{w:World}(I:G->Act->World->Prop)(S:G->Nat)(g:G)(J:I g a w)
  (D: ∀g a w,I g a w->c.wp P (Exit.then (λH w'=> ∃g',I g' H w'/\S g'<S g) Q) a w):(Code.loop c).wp P Q a w:=by
 intro b k cs;have X: ∀n g a w,S g=n->I g a w->
   ∃e H w',Q e H w'/\Arrives P (lone (b.at a (.code c:: .inLoop c::k)) cs w) b k cs e H w':=by
  intro n
  induction n using Nat.strongRecOn with
  |_ n ih=>
   intro g a w hn hI;obtain⟨e,h,r,B,f⟩:=D g a w hI b (.inLoop c::k) cs
   cases e with
   |normal=>
    obtain⟨C,E,Y⟩:=B;obtain⟨L,M,O,F,A⟩:=ih (S C) (hn▸Y) C h r rfl E;exact⟨L,M,O,F,.of_steps (Steps.trans f (.one step_inLoop)) A⟩
   |exit id=>exact⟨_,h,r,B,.pass (x:= .inLoop c) rfl (λ_ _=> .inl (by simp)) f⟩
   |goto _=>exact⟨_,h,r,B,.pass (x:= .inLoop c) rfl (λ_ _=> .inl (by simp)) f⟩
   |ret=>exact⟨_,h,r,B,.pass (x:= .inLoop c) rfl (λ_ _=> .inl (by simp)) f⟩
   |panic _=>exact⟨_,h,r,B,.pass (x:= .inLoop c) rfl (λ_ _=> .inl (by simp)) f⟩
   |outgrown=>exact⟨_,h,r,B,.pass (x:= .inLoop c) rfl (λ_ _=> .inl (by simp)) f⟩
 obtain⟨e,H,w',B,f⟩:=X _ g a w rfl J;exact⟨e,H,w',B,.of_steps (.one step_loop) f⟩

theorem WP_loopg {c:Code}{G:Type}(I:G->Env->World->Prop)(B:G->Nat)(g:G)(l:I g ρ w)
  (h: ∀g ρ w,I g ρ w->WP P N c (mZ (λf w'=> ∃A,I A f w'/\B A<B g) Q) ρ w):WP P N (.loop c) Q ρ w:=by
 intro a F;refine wp_loop_ghost (λg a w=> ∃ρ,Fits N a ρ/\I g ρ w) B g ⟨ρ,F,l⟩ ?_;rintro g a w ⟨ρ,H,J⟩;refine wp_mono (h g ρ w J a H) ?_;rintro e _ w' ⟨f,r,E⟩
 cases e with
 |normal=>obtain⟨A,C,D⟩:=E;exact⟨A,⟨f,r,C⟩,D⟩
 |_=>exact⟨f,r,E⟩
end wp

def aMp:List Value->Env
 | [],_=>undef
 |v::_,0=>v
 |_::l,i+1=>aMp l i

theorem aLb: ∀(l:List Value) (i:Nat),l.getD i undef=aMp l i
 | [],i=>by simp [aMp]
 |v::l,0=>by simp [aMp]
 |v::l,i+1=>by
  have:=aLb l i;simpa [aMp]using this

def bH (rs:Array ResultVar)(ρ:Env):Sem Value:=do
 let vs <-rs.mapM λ
  | .tmp t=>pure (ρ t)
  | .cell a t=>do loadVar t (<-asAddr (ρ a))
 pure (if h:vs.size=1 then vs[0]else .tuple vs)

theorem aHt {fn:Func}{a:Act}{N:Nat}{ρ:Env}(h:Fits N a ρ):results fn a.tmps=bH fn.results ρ:=by
 unfold results bH;simp only [h.get];rfl

def wH (P:Program)(rs:Array ResultVar)(R:Ending->World->Prop):Exit->Env->World->Prop
 | .normal,ρ,w| .ret,ρ,w=> ∃v,(bH rs ρ).run P w= .ok v w/\R (.returned v) w
 | .panic f,_,w=>R (.panicked f) w
 |_,_,_=>False

theorem rJ {P:Program}{f:FuncId}{fn:Func}{c:Code}{args:List Value}{w:World}{R:Ending->World->Prop} (N:Nat)
  (l:P.funcs[f]? =some fn) (D:fn.body=some c) (E:fn.ntmps=N) (C:Nat.ble args.length N=true)
  (h:WP P N c (wH P fn.results R) (aMp args) w):Calls P f args.toArray w R:=by
 refine calls_of_wp l D ?_;have C:=Nat.le_of_ble_eq_true C;subst E;have r:Fits fn.ntmps {tmps:=args.toArray++Array.replicate (fn.ntmps-args.toArray.size) undef,defers:=[]} (aMp args):=by
  refine⟨by simp;omega,rfl,λi=>?_⟩;rw [<-aLb];simp only [Array.getD_eq_getD_getElem?,Array.getElem?_append,List.getD_eq_getElem?_getD,List.size_toArray,Array.getElem?_replicate,List.getElem?_toArray];split
  ·rfl
  ·rename_i _;rw [List.getElem?_eq_none (by omega)];split<;>rfl
 refine wp_mono (h _ r) ?_;rintro e a w ⟨ρ,l,A⟩
 cases e<;>simp only [wH]at A<;>simp only [bodyPost]
 case normal=>obtain⟨v,h1,B⟩:=A;exact⟨l.dfr,v,by rw [aHt l];exact h1,B⟩
 case ret=>obtain⟨v,h1,B⟩:=A;exact⟨l.dfr,v,by rw [aHt l];exact h1,B⟩
 case panic ch=>exact⟨l.dfr,A⟩

section res
variable {P:Program}{ρ:Env}{w:World}{R:Ending->World->Prop}
theorem ret0 (h:R (.returned (.tuple #[])) w): ∃v,(bH #[] ρ).run P w= .ok v w/\R (.returned v) w:=
 ⟨_,by simp [bH],h⟩
theorem ret1 {t:Tmp}(h:R (.returned (ρ t)) w): ∃v,(bH #[.tmp t] ρ).run P w= .ok v w/\R (.returned v) w:=
 ⟨_,by simp [bH],h⟩
theorem ret2 {t u:Tmp}(h:R (.returned (.tuple #[ρ t,ρ u])) w): ∃v,(bH #[.tmp t,.tmp u] ρ).run P w= .ok v w/\R (.returned v) w:=
 ⟨_,by simp [bH],h⟩
theorem ret3 {t u x:Tmp}(h:R (.returned (.tuple #[ρ t,ρ u,ρ x])) w): ∃v,(bH #[.tmp t,.tmp u,.tmp x] ρ).run P w= .ok v w/\R (.returned v) w:=
 ⟨_,by simp [bH],h⟩
theorem retc1 {t:Tmp}{ty:TypeId}{a:Addr}{v:Value}(f:ρ t= .pointer (some a))(l:(loadVar ty a).run P w= .ok v w)(h:R (.returned v) w):
  ∃v,(bH #[.cell t ty] ρ).run P w= .ok v w/\R (.returned v) w:=
 ⟨_,by simp [bH,f,asAddr,l],h⟩
theorem retc1t1 {t u:Tmp}{ty:TypeId}{a:Addr}{v:Value}(f:ρ t= .pointer (some a))(l:(loadVar ty a).run P w= .ok v w)(h:R (.returned (.tuple #[v,ρ u])) w):
  ∃v,(bH #[.cell t ty,.tmp u] ρ).run P w= .ok v w/\R (.returned v) w:=
 ⟨_,by simp [bH,f,asAddr,l],h⟩
theorem retc1t2 {t u x:Tmp}{ty:TypeId}{a:Addr}{v:Value}(f:ρ t= .pointer (some a))(l:(loadVar ty a).run P w= .ok v w)(h:R (.returned (.tuple #[v,ρ u,ρ x])) w):
  ∃v,(bH #[.cell t ty,.tmp u,.tmp x] ρ).run P w= .ok v w/\R (.returned v) w:=
 ⟨_,by simp [bH,f,asAddr,l],h⟩
variable {rs:Array ResultVar}{v1 v2 v3:Value}{t u x:Tmp}{ty:TypeId}{a:Addr}{v:Value}
theorem aZy (f:rs= #[])(h:R (.returned (.tuple #[])) w):wH P rs R .ret ρ w:=by subst f;exact ret0 h
theorem nZ (f:rs= #[])(h:R (.returned (.tuple #[])) w):wH P rs R .normal ρ w:=by subst f;exact ret0 h
theorem aKp (f:rs= #[.tmp t])(h1:ρ t=v1)(h:R (.returned v1) w):wH P rs R .ret ρ w:=by subst f h1;exact ret1 h
theorem eH (f:rs= #[.tmp t,.tmp u])(h1:ρ t=v1)(l:ρ u=v2)(h:R (.returned (.tuple #[v1,v2])) w):wH P rs R .ret ρ w:=by subst f h1 l;exact ret2 h
theorem post3 (f:rs= #[.tmp t,.tmp u,.tmp x])(h1:ρ t=v1)(l:ρ u=v2)(r:ρ x=v3)(h:R (.returned (.tuple #[v1,v2,v3])) w):wH P rs R .ret ρ w:=by subst f h1 l r;exact ret3 h
theorem dV (f:rs= #[.cell t ty])(l:ρ t= .pointer (some a))(r:(loadVar ty a).run P w= .ok v w)(h:R (.returned v) w):wH P rs R .ret ρ w:=by subst f;exact retc1 l r h
theorem bF (f:rs= #[.cell t ty,.tmp u])(l:ρ t= .pointer (some a))(r:(loadVar ty a).run P w= .ok v w)(h1:ρ u=v1)(h:R (.returned (.tuple #[v,v1])) w):wH P rs R .ret ρ w:=by subst f h1;exact retc1t1 l r h
theorem aPk (f:rs= #[.cell t ty,.tmp u,.tmp x])(l:ρ t= .pointer (some a))(r:(loadVar ty a).run P w= .ok v w)(h1:ρ u=v1)(A:ρ x=v2)(h:R (.returned (.tuple #[v,v1,v2])) w):wH P rs R .ret ρ w:=by subst f h1 A;exact retc1t2 l r h
end res

def fO (N:Nat)(ops:Array Oper)(ρ:Env)(o:Oper):Bool:=
 match o.guard with
 |none=>true
 |some (j,b)=>match (ops[j]?).bind (·.dst)with
  |some d=>decide (d<N)&&(match ρ d with | .bool x=>x==b|_=>false)
  |none=>false

theorem Fits.wanted {N:Nat}{a:Act}{ρ:Env} (h:Fits N a ρ) (ops:Array Oper) (o:Oper):Region.wanted o (yielded ops a.tmps)=fO N ops ρ o:=by
 unfold Region.wanted fO yielded
 cases o.guard with
 |none=>rfl
 |some l=>
  obtain⟨j,b⟩:=l;simp only
  cases hd:(ops[j]?).bind (·.dst)with
  |none=>simp
  |some d=>
   simp only [Option.bind_some]
   by_cases f:d<N
   ·have h1:a.tmps[d]? =some (ρ d):=by
     have:=h.get d;rw [Array.getD_eq_getD_getElem?]at this;rw [Array.getElem?_eq_getElem (by rw [h.size];exact f)]at this⊢;simpa using this
    rw [h1];simp only [f,decide_true,Bool.true_and]
    cases ρ d<;>simp
   ·have h1:a.tmps[d]? =none:=Array.getElem?_eq_none (by rw [h.size];exact Nat.not_lt.mp f);rw [h1];simp [f]

def RL (P:Program)(N:Nat)(ops:Array Oper)(Q:Exit->Env->World->Prop)(l:List Oper)(ρ:Env)(w:World):Prop:=
 ∀a,Fits N a ρ->wpList P ops (aEv N Q) l a w

def Do (P:Program)(o:Oper)(ρ:Env)(w:World)(v:Value)(w':World):Prop:=(execOp (ev ρ) o).run P w= .ok (.value v) w'
def DoU (P:Program)(o:Oper)(ρ:Env)(w w':World):Prop:=(execOp (ev ρ) o).run P w= .ok .skip w'
def DoC (P:Program)(o:Oper)(ρ:Env)(w:World)(f:FuncId)(args:Array Value):Prop:=(execOp (ev ρ) o).run P w= .ok (.enter f args) w

section rl
variable {P:Program}{N:Nat}{ops:Array Oper}{Q:Exit->Env->World->Prop}{o:Oper}{rest:List Oper}{ρ:Env}{w w':World}{v:Value}{d:Nat}{op:Op}{ty:TypeId}{pos:String}{af:Array Edge}{g:Option (Nat×Bool)}

theorem zF {id:Nat}{l:List Oper}(h:RL P N l.toArray Q l ρ w):WP P N (.region id l.toArray false) Q ρ w:=
 λa f=>wp_region_lit (h a f)

theorem yU (h:Q .normal ρ w):RL P N ops Q [] ρ w:=λ_ f=>wpList_nil ⟨ρ,f,h⟩

theorem xR (hd:Nat.blt d N=true):aTr N (some d)=true:=by
 have h:d+1<=N:=by simpa [Nat.blt]using hd
 simp only [aTr,decide_eq_true_eq];exact Nat.lt_of_succ_le h

theorem aG (l:fO N ops ρ ⟨some d,op,ty,pos,af,g⟩=true)(hd:Nat.blt d N=true)(h:Do P ⟨some d,op,ty,pos,af,g⟩ ρ w v w')(k:RL P N ops Q rest (upd ρ d v) w'):RL P N ops Q (⟨some d,op,ty,pos,af,g⟩::rest) ρ w:=by
 intro a f;unfold wpList;rw [f.wanted,l,if_pos rfl];refine .inl ?_;unfold Oper.wp;rw [f.eval,show(execOp (ev ρ) _).run P w=_ from h];exact k _ (f.put (xR hd) v)

theorem RL_doU (l:fO N ops ρ ⟨none,op,ty,pos,af,g⟩=true)(h:DoU P ⟨none,op,ty,pos,af,g⟩ ρ w w')(k:RL P N ops Q rest ρ w'):RL P N ops Q (⟨none,op,ty,pos,af,g⟩::rest) ρ w:=by
 intro a f;unfold wpList;rw [f.wanted,l,if_pos rfl];refine .inl ?_;unfold Oper.wp;rw [f.eval,show(execOp (ev ρ) _).run P w=_ from h];exact k _ f
theorem RL_off (h:fO N ops ρ ⟨some d,op,ty,pos,af,g⟩=false)(hd:Nat.blt d N=true)(k:RL P N ops Q rest (upd ρ d undef) w):RL P N ops Q (⟨some d,op,ty,pos,af,g⟩::rest) ρ w:=by
 intro a f;unfold wpList;rw [f.wanted,h,if_neg (by simp)];exact k _ (f.put (xR hd) _)

theorem yY {f:FuncId}{args:Array Value}{R:Ending->World->Prop}(A:fO N ops ρ ⟨some d,op,ty,pos,af,g⟩=true)(hd:Nat.blt d N=true)(h:DoC P ⟨some d,op,ty,pos,af,g⟩ ρ w f args)
    (B:Calls P f args w R)(k: ∀e w',R e w'-> ∃v,e= .returned v/\RL P N ops Q rest (upd ρ d v) w'):RL P N ops Q (⟨some d,op,ty,pos,af,g⟩::rest) ρ w:=by
 intro a l;unfold wpList;rw [l.wanted,A,if_pos rfl];refine .inl ?_;unfold Oper.wp;rw [l.eval,show(execOp (ev ρ) _).run P w=_ from h];refine B.mono λe r C=>?_;obtain⟨v,rfl,hk⟩:=k e r C;exact hk _ (l.put (xR hd) v)
theorem RL_splitb {b:Bool}{x:Operand}(f:fO N ops ρ ⟨some d,.move x,ty,pos,af,g⟩=true)(hd:Nat.blt d N=true)(h:ev ρ x= .bool b)
    (l:b=true->RL P N ops Q rest (upd ρ d (.bool true)) w)(r:b=false->RL P N ops Q rest (upd ρ d (.bool false)) w):RL P N ops Q (⟨some d,.move x,ty,pos,af,g⟩::rest) ρ w:=by
 refine aG (v:= .bool b) (w':=w) f hd (by unfold Do;simp [execOp,h]) ?_;cases b;exact r rfl;exact l rfl

def fK (w w':World):Prop:=Below w.heap.size w w'

variable {K:Env->Prop}
end rl

def aWn:List (Nat×Value)->Nat->Option Value
 | [],_=>none
 |(j,v)::l,i=>if i=j then some v else aWn l i
def Sl (ρ:Env)(l:List (Nat×Value)):Prop:= ∀i v,aWn l i=some v->ρ i=v
def over (f ρ:Env)(W:List Nat)(l:List (Nat×Value)):Env:=λi=>
 match aWn l i with
 |some v=>v
 |none=>if W.contains i then ρ i else f i
def Fr (W:List Nat)(f ρ:Env):Prop:= ∀i,W.contains i=false->ρ i=f i

theorem yG {ρ:Env}:Sl ρ []:=λi v h=>by simp [aWn]at h
theorem yB {ρ:Env}{j:Nat}{v:Value}{l:List (Nat×Value)}(h:ρ j=v)(r:Sl ρ l):Sl ρ ((j,v)::l):=by
 intro i u f;unfold aWn at f;split at f;rename_i hi;subst hi;cases f;exact h;exact r i u f
theorem aQl {f ρ:Env}{W:List Nat}{l:List (Nat×Value)} (r:Fr W f ρ) (A:Sl ρ l):over f ρ W l=ρ:=by
 funext i;unfold over;split;rename_i v B;exact(A i v B).symm;split;rfl;rename_i h;exact(r i (by simpa using h)).symm
theorem aFb {W:List Nat}{ρ:Env}:Fr W ρ ρ:=λ_ _=>rfl
theorem aPo {W:List Nat}{f ρ:Env}{d:Nat}{v:Value}(hd:W.contains d=true)(h:Fr W f ρ):Fr W f (upd ρ d v):=by
 intro i hi;unfold upd;rw [if_neg (λe=>by subst e;rw [hd]at hi;cases hi)];exact h i hi
theorem aOd {W:List Nat}: ∀{l:List (Nat×Value)}{i:Nat},(l.all λp=>W.contains p.1)=true->W.contains i=false->aWn l i=none
 | [],_,_,_=>rfl
 |(j,v)::l,i,f,hi=>by
  simp only [List.all_cons,Bool.and_eq_true]at f;unfold aWn;rw [if_neg (λe=>by subst e;rw [f.1]at hi;cases hi)];exact aOd f.2 hi
theorem aIf {W A:List Nat}{f ρ r:Env}{l:List (Nat×Value)}(hk:(l.all λp=>W.contains p.1)=true)(B:(A.all λi=>W.contains i)=true)(h:Fr W f ρ):Fr W f (over ρ r A l):=by
 intro i hi;unfold over;rw [aOd hk hi];simp only;have C:A.contains i=false:=by
  cases h':A.contains i with
  |false=>rfl
  |true=>
   have hm:i∈A:=by simpa using h'
   have:=List.all_eq_true.1 B i hm;rw [this]at hi;cases hi
 rw [C];exact h i hi

section loops
variable {P:Program}{N:Nat}{Q:Exit->Env->World->Prop}{ρ:Env}{w:World}
theorem aJo {c:Code}{G:Type}(W:List Nat)(S:G->List (Nat×Value))(I:G->World->Prop)(B:G->Nat)(g:G)(C:Sl ρ (S g))(D:I g w)
  (r: ∀g f w,I g w->WP P N c (mZ (λl w'=>Fr W ρ l/\ ∃A,Sl l (S A)/\I A w'/\B A<B g) Q) (over ρ f W (S g)) w):WP P N (.loop c) Q ρ w:=by
 refine WP_loopg (λg l w=>Fr W ρ l/\Sl l (S g)/\I g w) B g ⟨aFb,C,D⟩ ?_;rintro g f w ⟨F,C,D⟩;have h:=r g f w D;rw [aQl F C]at h;refine h.mono ?_;intro e l w' E
 cases e<;>first |(obtain⟨h1,A,H,J,L⟩:=E;exact⟨A,⟨h1,H,J⟩,L⟩)|exact E
theorem aIe {x y:Code}{G:Type}(W:List Nat)(S:G->List (Nat×Value))(I:G->World->Prop)
    (h:WP P N x (mZ (λf w'=>Fr W ρ f/\ ∃g,Sl f (S g)/\I g w') Q) ρ w)(k: ∀g l w,I g w->WP P N y Q (over ρ l W (S g)) w):WP P N (.seq x y) Q ρ w:=by
 refine aVw h ?_;rintro f w' ⟨h1,g,r,A⟩;have:=k g f w' A;rwa [aQl h1 r]at this
end loops

theorem wrap_i64 {n:Int}(h: -9223372036854775808<=n)(f:n<=9223372036854775807):IntKind.i64.wrap n=n:=by rw [IntKind.wrap_i64];omega
theorem wrap_u8 {n:Int}(h:0<=n)(f:n<256):IntKind.u8.wrap n=n:=by rw [IntKind.wrap_u8];omega
theorem wrap_u16 {n:Int}(h:0<=n)(f:n<65536):IntKind.u16.wrap n=n:=by rw [IntKind.wrap_u16];omega
section ops
variable {P:Program}{ρ:Env}{w:World}{d:Option Tmp}{x y z:Operand}{t u ty:TypeId}{pos:String}{af:Array Edge}{g:Option (Nat×Bool)}
variable {k k':IntKind}{a b c m:Int}{v:Value}{p q:Bool}

theorem bW (f:ev ρ x=v):Do P ⟨d,.move x,ty,pos,af,g⟩ ρ w v w:=by unfold Do;simp [execOp,f]
theorem yQ (f:ev ρ x=v):Do P ⟨d,.assign x,ty,pos,af,g⟩ ρ w v w:=by unfold Do;simp [execOp,f]
theorem mY (f:ev ρ x= .bool true)(h:ev ρ y=v):Do P ⟨d,.pick x y z,ty,pos,af,g⟩ ρ w v w:=by unfold Do;simp [execOp,f,h,asBool]
theorem pR (f:ev ρ x= .bool false)(h:ev ρ z=v):Do P ⟨d,.pick x y z,ty,pos,af,g⟩ ρ w v w:=by unfold Do;simp [execOp,f,h,asBool]

theorem aBu (f:ev ρ x= .int k a)(h:ev ρ y= .int k b)(l:k.wrap (a+b)=c):Do P ⟨d,.binOp .add t x y u,ty,pos,af,g⟩ ρ w (.int k c) w:=by
 unfold Do;simp [execOp,f,h,eqGuard,binOp,Op.intArith,l]
theorem jD (f:ev ρ x= .int k a)(h:ev ρ y= .int k b)(l:k.wrap (a-b)=c):Do P ⟨d,.binOp .sub t x y u,ty,pos,af,g⟩ ρ w (.int k c) w:=by
 unfold Do;simp [execOp,f,h,eqGuard,binOp,Op.intArith,l]
theorem aBp (f:ev ρ x= .int k a)(h:ev ρ y= .int k b)(l:k.wrap (a*b)=c):Do P ⟨d,.binOp .mul t x y u,ty,pos,af,g⟩ ρ w (.int k c) w:=by
 unfold Do;simp [execOp,f,h,eqGuard,binOp,Op.intArith,l]
theorem Do_tquo (f:ev ρ x= .int k a)(h:ev ρ y= .int k b)(h1:b≠0)(l:k.wrap (a.tdiv b)=c):Do P ⟨d,.binOp .quo t x y u,ty,pos,af,g⟩ ρ w (.int k c) w:=by
 unfold Do;simp [execOp,f,h,eqGuard,binOp,Op.intDiv,h1,l]
theorem Do_trem (f:ev ρ x= .int k a)(h:ev ρ y= .int k b)(h1:b≠0):Do P ⟨d,.binOp .rem t x y u,ty,pos,af,g⟩ ρ w (.int k (a.tmod b)) w:=by
 unfold Do;simp [execOp,f,h,eqGuard,binOp,Op.intDiv,h1]

theorem aJp (f:ev ρ x= .int k a)(h:ev ρ y= .int k b):Do P ⟨d,.binOp .lss t x y u,ty,pos,af,g⟩ ρ w (.bool (decide (a<b))) w:=by
 unfold Do;simp [execOp,f,h,eqGuard,binOp,Op.intCmp]
theorem aDh (f:ev ρ x= .int k a)(h:ev ρ y= .int k b):Do P ⟨d,.binOp .leq t x y u,ty,pos,af,g⟩ ρ w (.bool (decide (a<=b))) w:=by
 unfold Do;simp [execOp,f,h,eqGuard,binOp,Op.intCmp]
theorem aDy (f:ev ρ x= .int k a)(h:ev ρ y= .int k b):Do P ⟨d,.binOp .gtr t x y u,ty,pos,af,g⟩ ρ w (.bool (decide (b<a))) w:=by
 unfold Do;simp [execOp,f,h,eqGuard,binOp,Op.intCmp]
theorem Do_geq (f:ev ρ x= .int k a)(h:ev ρ y= .int k b):Do P ⟨d,.binOp .geq t x y u,ty,pos,af,g⟩ ρ w (.bool (decide (b<=a))) w:=by
 unfold Do;simp [execOp,f,h,eqGuard,binOp,Op.intCmp]
theorem aYf (f:ev ρ x= .int k a)(l:ev ρ y= .int k b):Do P ⟨d,.binOp .eql t x y u,ty,pos,af,g⟩ ρ w (.bool (decide (a=b))) w:=by
 have h:(a==b)=decide (a=b):=by rw [Bool.eq_iff_iff];simp
 unfold Do;simp [execOp,f,l,eqGuard,binOp,Op.intCmp,h]
theorem aWt (f:ev ρ x= .int k a)(l:ev ρ y= .int k b):Do P ⟨d,.binOp .neq t x y u,ty,pos,af,g⟩ ρ w (.bool (decide (a≠b))) w:=by
 have h:(a !=b)=decide (a≠b):=by rw [Bool.eq_iff_iff];simp
 unfold Do;simp [execOp,f,l,eqGuard,binOp,Op.intCmp,h]

theorem aBk (f:ev ρ x= .int k a)(h:ev ρ y= .int k b)(l:bits .and k a b=c):Do P ⟨d,.binOp .and t x y u,ty,pos,af,g⟩ ρ w (.int k c) w:=by
 unfold Do;simp [execOp,f,h,eqGuard,binOp,intBits_and,l]
theorem Do_or (f:ev ρ x= .int k a)(h:ev ρ y= .int k b)(l:bits .or k a b=c):Do P ⟨d,.binOp .or t x y u,ty,pos,af,g⟩ ρ w (.int k c) w:=by
 unfold Do;simp [execOp,f,h,eqGuard,binOp,intBits_or,l]
theorem Do_xor (f:ev ρ x= .int k a)(h:ev ρ y= .int k b)(l:bits .xor k a b=c):Do P ⟨d,.binOp .xor t x y u,ty,pos,af,g⟩ ρ w (.int k c) w:=by
 unfold Do;simp [execOp,f,h,eqGuard,binOp,intBits_xor,l]
theorem Do_shr (f:ev ρ x= .int k a)(h:ev ρ y= .int k' b)(l:0<=b)(h1:b<=k.bits)(hm:(2:Int)^b.toNat=m):Do P ⟨d,.binOp .shr t x y u,ty,pos,af,g⟩ ρ w (.int k (a/m)) w:=by
 unfold Do;simp [execOp,f,h,eqGuard,binOp,shift_shr k k' a b l h1,hm]
theorem Do_shl (f:ev ρ x= .int k a)(h:ev ρ y= .int k' b)(l:0<=b)(h1:b<=k.bits)(hm:(2:Int)^b.toNat=m)(r:k.wrap (a*m)=c):Do P ⟨d,.binOp .shl t x y u,ty,pos,af,g⟩ ρ w (.int k c) w:=by
 unfold Do;simp [execOp,f,h,eqGuard,binOp,shift_shl k k' a b l h1,hm,r]
theorem aBh (f:ev ρ x= .bool p):Do P ⟨d,.unOp .not t x,ty,pos,af,g⟩ ρ w (.bool (!p)) w:=by
 unfold Do;simp [execOp,f,Op.unary]
theorem Do_neg (f:ev ρ x= .int k a)(h:k.wrap (-a)=c):Do P ⟨d,.unOp .neg t x,ty,pos,af,g⟩ ρ w (.int k c) w:=by
 unfold Do;simp [execOp,f,Op.unary,Op.intArith,h]
theorem aBy {f:TypeDesc}(h:P.underlying t=some f)(hd:P.underlying u=some (.int k'))(l:ev ρ x= .int k a)(r:k'.wrap a=c):Do P ⟨d,.convert t u x,ty,pos,af,g⟩ ρ w (.int k' c) w:=by
 unfold Do;simp [execOp,l,convert,run_underlying h,run_underlying hd,Conv.intToInt,r]
theorem aZl (f:P.underlying t=some .bool)(h:ev ρ x= .bool p)(l:ev ρ y= .bool q):Do P ⟨d,.binOp .neq t x y u,ty,pos,af,g⟩ ρ w (.bool (!(p==q))) w:=by
 unfold Do;simp [execOp,h,l,eqGuard,run_neq_bool w t p q f]
theorem xI {ad:Addr}(f:ev ρ x= .pointer (some ad)):Do P ⟨d,.nilCheck x,ty,pos,af,g⟩ ρ w (.pointer (some ad)) w:=by
 unfold Do;simp [execOp,f]
theorem zV {vs:Array Value}{i:Nat}(f:ev ρ x= .tuple vs)(hi:vs[i]? =some v):Do P ⟨d,.extract x i,ty,pos,af,g⟩ ρ w v w:=by
 unfold Do;simp [execOp,f,Instr.extract,hi]
end ops

structure Only (S:List Nat)(w w':World):Prop where
 os:w'.os=w.os
 tape:w'.tape=w.tape
 output:w'.output=w.output
 size:w.heap.size<=w'.heap.size
 block: ∀k,k<w.heap.size->k∉S->w'.heap[k]? =w.heap[k]?

theorem Only.refl (S:List Nat)(w:World):Only S w w:=⟨rfl,rfl,rfl,Nat.le_refl _,λ_ _ _=>rfl⟩
theorem Only.trans {S:List Nat}{a b c:World}(h:Only S a b)(k:Only S b c):Only S a c:=
 ⟨k.os.trans h.os,k.tape.trans h.tape,k.output.trans h.output,Nat.le_trans h.size k.size,λi hi f=>(k.block i (Nat.lt_of_lt_of_le hi h.size) f).trans (h.block i hi f)⟩
theorem Only.mono {S f:List Nat}{a b:World}(h:Only S a b)(l: ∀i∈S,i∈f):Only f a b:=
 ⟨h.os,h.tape,h.output,h.size,λi hi r=>h.block i hi (λhm=>r (l i hm))⟩
theorem Only.step {S f:List Nat}{a b c:World}(h:Only S a b)(k:Only f b c)(r: ∀i∈f,a.heap.size<=i\/i∈S):Only S a c:=
 ⟨k.os.trans h.os,k.tape.trans h.tape,k.output.trans h.output,Nat.le_trans h.size k.size,λi hi l=>
  (k.block i (Nat.lt_of_lt_of_le hi h.size) (λhm=>(r i hm).elim (λh=>by omega) l)).trans (h.block i hi l)⟩
theorem Only.below {w w':World}(h:Only [] w w'):Below w.heap.size w w':=⟨h.os,h.tape,h.output,h.size,λk hk=>h.block k hk (by simp)⟩
theorem Only.of_below {w w':World}(h:Below w.heap.size w w'):Only [] w w':=⟨h.os,h.tape,h.output,h.size,λk hk _=>h.block k hk⟩

def Blk (w:World)(b:Nat)(cs:List Value)(T:TypeId):Prop:=w.heap[b]? =some (.cells cs.toArray T (0,0))

theorem Blk.lt {w:World}{b:Nat}{cs:List Value}{T:TypeId}(h:Blk w b cs T):b<w.heap.size:=(Array.getElem?_eq_some_iff.1 h).1
theorem Blk.cell {w:World}{b:Nat}{cs:List Value}{T:TypeId}(h:Blk w b cs T){i:Nat}{v:Value}(hi:cs[i]? =some v):w.cell? ⟨b,i,none⟩=some v:=by
 rw [cell_of_row w b i cs.toArray T (0,0) h];simpa using hi
theorem Blk.frozen {w:World}{b:Nat}{cs:List Value}{T:TypeId}(h:Blk w b cs T)(i:Nat):w.frozen? ⟨b,i,none⟩=false:=frozen_of_row w b i cs.toArray T h
theorem Blk.only {S:List Nat}{w w':World}{b:Nat}{cs:List Value}{T:TypeId}(h:Blk w b cs T)(f:Only S w w')(l:b∉S):Blk w' b cs T:=by
 have r:=h.lt;unfold Blk at *;rw [f.block b r l];exact h
theorem Blk.Z {w w':World}{b:Nat}{cs:List Value}{T:TypeId}(h:Blk w b cs T)(f:fK w w'):Blk w' b cs T:=by
 have l:=h.lt;unfold Blk at *;rw [f.block b l];exact h
theorem Blk.below {B:Nat}{w w':World}{b:Nat}{cs:List Value}{T:TypeId}(h:Blk w b cs T)(f:Below B w w')(l:b<B):Blk w' b cs T:=by
 unfold Blk at *;rw [f.block b l];exact h

def Cells (w:World)(a:Addr)(cs:List Value):Prop:= ∀i v,cs[i]? =some v->w.cell? (a.add i)=some v

theorem Addr.add_none (b o i:Nat):(⟨b,o,none⟩:Addr).add i=⟨b,o+i,none⟩:=by unfold Addr.add;split<;>simp_all
theorem Addr.add_block (a:Addr)(i:Nat):(a.add i).block=a.block:=by unfold Addr.add;split<;>rfl
theorem Cells.only {S:List Nat}{w w':World}{a:Addr}{cs:List Value}(h:Cells w a cs)(r:Only S w w')(A:a.block∉S):Cells w' a cs:=by
 intro i v B;have l:=h i v B;have f:(a.add i).block<w.heap.size:=World.block_lt_of_cell? _ _ l;rw [World.cell?_of_block (w:=w) (r.block _ f (by rw [Addr.add_block];exact A))];exact l
theorem Cells.Z {w w':World}{a:Addr}{cs:List Value}(h:Cells w a cs)(f:fK w w'):Cells w' a cs:=h.only (Only.of_below f) (by simp)
theorem Cells.get {w:World}{b o:Nat}{cs:List Value}(h:Cells w ⟨b,o,none⟩ cs){i:Nat}{v:Value}(hi:cs[i]? =some v):w.cell? ⟨b,o+i,none⟩=some v:=by
 rw [<-Addr.add_none];exact h i v hi
theorem Blk.cells {w:World}{b:Nat}{cs:List Value}{T:TypeId}(h:Blk w b cs T):Cells w ⟨b,0,none⟩ cs:=by
 intro i v f;rw [Addr.add_none];simpa using h.cell f
theorem Cells.drop {w:World}{b o:Nat}{cs:List Value}(h:Cells w ⟨b,o,none⟩ cs)(n m:Nat):Cells w ⟨b,o+n,none⟩ ((cs.drop n).take m):=by
 intro i v f;rw [Addr.add_none,Nat.add_assoc];refine h.get ?_;rw [List.getElem?_take]at f;split at f;rwa [List.getElem?_drop]at f;cases f

def Sz (P:Program)(t:TypeId)(n:Nat):Prop:=(P.info? t).map (·.size)=some n
def aAs (P:Program)(t:TypeId):Prop:=(P.underlying t).map (λd=>match d with | .struct _| .array _ _=>false|_=>true)=some true
def Agg (P:Program)(t:TypeId):Prop:=(P.underlying t).map (λd=>match d with | .struct _| .array _ _=>true|_=>false)=some true
def Zero (P:Program)(t:TypeId)(cs:List Value):Prop:=((P.info? t).bind (·.zero)).map (·.cells.toList)=some cs

theorem bQ {P:Program}{t:TypeId}{n:Nat}(h:Sz P t n)(w:World):(sizeOf t).run P w= .ok n w:=by
 unfold Sz at h
 cases hi:P.info? t with
 |none=>rw [hi]at h;cases h
 |some i=>rw [hi]at h;simp at h;simp [sizeOf,typeInfo,hi,h]
theorem vS {P:Program}{t:TypeId}(h:aAs P t)(w:World):(isAgg t).run P w= .ok false w:=by
 unfold aAs at h
 cases hu:P.underlying t with
 |none=>rw [hu]at h;cases h
 |some d=>rw [hu]at h;cases d<;>simp at h<;>simp [isAgg,run_underlying hu]
theorem aDc {P:Program}{t:TypeId}(h:Agg P t)(w:World):(isAgg t).run P w= .ok true w:=by
 unfold Agg at h
 cases hu:P.underlying t with
 |none=>rw [hu]at h;cases h
 |some d=>rw [hu]at h;cases d<;>simp at h<;>simp [isAgg,run_underlying hu]

theorem aIb {P:Program}{t:TypeId}{a:Addr}{v:Value}{w:World}(h1:aAs P t)(f:w.cell? a=some v):(loadVar t a).run P w= .ok v w:=by
 have h:(load a .plain).run P w= .ok v w:=by simp [load,Sem.run,f]
 simp only [loadVar,Sem.run_bind,vS h1,Result.andThen];exact h
theorem zS {P:Program}{t:TypeId}{n:Nat}{a:Addr}{cs:List Value}{w:World}(h1:Agg P t)(h:Sz P t n)(f:cs.length=n)(l:Cells w a cs):(loadVar t a).run P w= .ok (.agg cs.toArray) w:=by
 subst f;have f:=run_loadCells_list (P:=P) w a cs l;simp [loadVar,Sem.run_bind,aDc h1,bQ h,f]

structure Wr (w w':World)(b:Nat)(cs:List Value)(T:TypeId):Prop where
 blk:Blk w' b cs T
 only:Only [b] w w'
 size:w'.heap.size=w.heap.size
structure Al (w w':World)(b:Nat)(cs:List Value)(T:TypeId):Prop where
 at_:b=w.heap.size
 blk:Blk w' b cs T
 only:Only [] w w'
 size:w'.heap.size=w.heap.size+1

theorem Al.mk' (w:World)(cs:List Value)(T:TypeId):Al w (w.alloc (.cells cs.toArray T)) w.heap.size cs T:=
 ⟨rfl,heap_alloc_new w _,⟨rfl,rfl,rfl,by simp,λk hk _=>Below.heap_alloc w _ k hk⟩,by simp⟩
theorem Wr.setRow {w:World}{b:Nat}{cs:List Value}{T:TypeId}(h:Blk w b cs T)(cs':List Value):Wr w (w.setRow b cs'.toArray) b cs' T:=
 ⟨setRow_heap w b _ _ T (0,0) h,⟨rfl,rfl,rfl,by simp,λk _ f=>setRow_other w b k _ (λe=>f (by simp [e]))⟩,by simp⟩

section mem
variable {P:Program}{N:Nat}{ops:Array Oper}{Q:Exit->Env->World->Prop}{rest:List Oper}{ρ:Env}{w:World}{d:Nat}{do_:Option Tmp}{x y z:Operand}{t u ty:TypeId}{pos:String}{af:Array Edge}{g:Option (Nat×Bool)}
variable {v:Value}{b i:Nat}{cs:List Value}{T:TypeId}

theorem yP {a:Addr}(h1:aAs P t)(f:ev ρ x= .pointer (some a))(h:w.cell? a=some v):Do P ⟨do_,.load t x,ty,pos,af,g⟩ ρ w v w:=by
 unfold Do;simp [execOp,f,Instr.loadAt,Instr.sureAddr,aIb h1 h]
theorem zZ {a:Addr}{n:Nat}(h1:Agg P t)(f:ev ρ x= .pointer (some a))(h:Sz P t n)(l:cs.length=n)(r:Cells w a cs):Do P ⟨do_,.load t x,ty,pos,af,g⟩ ρ w (.agg cs.toArray) w:=by
 unfold Do;simp [execOp,f,Instr.loadAt,Instr.sureAddr,zS h1 h l r]

end mem

def SlR (w:World)(v:Value)(s n:Nat)(xs:List Value):Prop:=
 xs.length=n*s/\((v= .slice none 0 0/\n=0)\/ ∃a cap,v= .slice (some a) n cap/\n<=cap/\cap<=maxLen/\(0<n->a.spot=none)/\Cells w a xs)

def nY:Value->Option Nat
 | .slice (some a) _ _=>some a.block
 |_=>none

theorem SlR.only {S:List Nat}{w w':World}{v:Value}{s n:Nat}{xs:List Value} (h:SlR w v s n xs) (r:Only S w w') (A:0<n-> ∀b,nY v=some b->b∉S):SlR w' v s n xs:=by
 obtain⟨l,h⟩:=h;refine⟨l,?_⟩;rcases h with h|⟨a,cap,rfl,h1,B,C,D⟩
 ·exact .inl h
 ·refine .inr ⟨a,cap,rfl,h1,B,C,?_⟩;rcases Nat.eq_zero_or_pos n with f|f
  ·subst f;have:xs=[]:=List.eq_nil_of_length_eq_zero (by simpa using l);subst this;intro i v E;simp at E
  ·exact D.only r (A f a.block rfl)
theorem SlR.lt {w:World}{v:Value}{n:Nat}{xs:List Value} (h:SlR w v 1 n xs) (A:0<n): ∀b,nY v=some b->b<w.heap.size:=by
 intro b f;obtain⟨_,h⟩:=h;rcases h with ⟨rfl,_⟩|⟨a,_,rfl,h1,_,_,l⟩
 ·cases f
 ·cases f
  have r:0<xs.length:=by omega
  have:=World.block_lt_of_cell? _ _ (l 0 xs[0] (by simp [r]));rwa [Addr.add_block]at this
theorem SlR.below {w w':World}{v:Value}{s n:Nat}{xs:List Value}(h:SlR w v s n xs)(f:Below w.heap.size w w'):SlR w' v s n xs:=h.only (Only.of_below f) (by simp)
theorem SlR.Z {w w':World}{v:Value}{s n:Nat}{xs:List Value}(h:SlR w v s n xs)(f:fK w w'):SlR w' v s n xs:=h.below f
theorem SlR.nil {w:World}{s:Nat}:SlR w (.slice none 0 0) s 0 []:=⟨by simp,.inl ⟨rfl,rfl⟩⟩
theorem SlR.shape {w:World}{v:Value}{s n:Nat}{xs:List Value}(h:SlR w v s n xs): ∃a c,v= .slice a n c:=by
 rcases h.2 with ⟨h,f⟩|⟨a,_,h,_⟩
 ·exact⟨none,0,by rw [h,f]⟩
 ·exact⟨_,_,h⟩
theorem SlR.some {w:World}{v:Value}{s n:Nat}{xs:List Value} (h:SlR w v s n xs) (l:0<n): ∃b o cap,v= .slice (some ⟨b,o,none⟩) n cap/\n<=cap/\cap<=maxLen/\Cells w ⟨b,o,none⟩ xs:=by
 rcases h.2 with ⟨_,h⟩|⟨⟨b,o,r⟩,cap,h,h1,A,f,B⟩
 ·omega
 ·have f:r=none:=f l;subst f;exact⟨b,o,cap,h,h1,A,B⟩
theorem maxLen_eq:maxLen=9223372036854775807:=by decide

def Enters (P:Program)(f:FuncId):Prop:= ∃fn,P.funcs[f]? =some fn/\fn.body.isSome=true/\(fn.name== "runtime.NumGoroutine")=false

section ops
variable {P:Program}{N:Nat}{ops:Array Oper}{Q:Exit->Env->World->Prop}{rest:List Oper}{ρ:Env}{w:World}{d:Option Tmp}{x y z:Operand}{t u ty e:TypeId}{pos:String}{af:Array Edge}{g:Option (Nat×Bool)}
variable {v:Value}{b o i j m n c s:Nat}{k k':IntKind}{q:Int}{cs xs:List Value}{T:TypeId}

theorem xE {f:FuncId}{args:Array Operand}{h:Array TypeId}{vs:List Value}(B:Enters P f)(C:args.toList.map (ev ρ)=vs):
  DoC P ⟨d,.call {callee:= .value (.func f),args:=args,argTypes:=h},ty,pos,af,g⟩ ρ w f vs.toArray:=by
 obtain⟨fn,h1,_,D⟩:=B;have l: ¬fn.body=none:=by cases hb:fn.body<;>simp_all
 have r: ¬fn.name= "runtime.NumGoroutine" :=by simpa using D
 have A:(callFunc f (args.map (ev ρ))).run P w= .ok (.enter f (args.map (ev ρ))) w:=by
  simp [callFunc,Sem.run,h1,l,r,program]
 unfold DoC;have e:args.map (ev ρ)=vs.toArray:=by rw [<-C];apply Array.ext';simp
 simp only [execOp,resolve,ev,Deferred.ofValue];rw [e]at A⊢;simp [invoke,A]

theorem aA (f:P.underlying t=some (.slice e)){a:Option Addr}(h:ev ρ x= .slice a n c):
    Do P ⟨d,.call {callee:= .builtin .len,args:= #[x],argTypes:= #[t]},ty,pos,af,g⟩ ρ w (.int .i64 n) w:=by
 unfold Do;simp [execOp,resolve,invoke,builtin,Builtin.len_,h,run_underlying f,goInt]
theorem Do_lens (f:P.underlying t=some .string){str:ByteArray}(h:ev ρ x= .string str):
    Do P ⟨d,.call {callee:= .builtin .len,args:= #[x],argTypes:= #[t]},ty,pos,af,g⟩ ρ w (.int .i64 str.size) w:=by
 unfold Do;simp [execOp,resolve,invoke,builtin,Builtin.len_,h,run_underlying f,goInt]

theorem kG (f:P.underlying t=some (.slice e))(h:Sz P e s)(l:ev ρ x= .slice (some ⟨b,o,none⟩) n c)(r:ev ρ y= .int k q)(A:0<=q)(h1:q<n)(B:q.toNat=j)(hm:o+j*s=m):
    Do P ⟨d,.indexAddr t x y,ty,pos,af,g⟩ ρ w (.pointer (some ⟨b,m,none⟩)) w:=by
 unfold Do;simp [execOp,Instr.indexAt,l,r,asIntOf,run_underlying f,A,h1,bQ h,B,Addr.add_none,hm]
theorem Do_idxa (f:P.underlying t=some (.array n e))(h:Sz P e s)(l:ev ρ x= .pointer (some ⟨b,o,none⟩))(r:ev ρ y= .int k q)(A:0<=q)(h1:q<n)(B:q.toNat=j)(hm:o+j*s=m):
    Do P ⟨d,.indexAddr t x y,ty,pos,af,g⟩ ρ w (.pointer (some ⟨b,m,none⟩)) w:=by
 unfold Do;simp [execOp,Instr.indexAt,Instr.sureAddr,l,r,asIntOf,run_underlying f,A,h1,bQ h,B,Addr.add_none,hm]
theorem aUw {kl:IntKind}{l:Int}{lo:Operand}{a:Option Addr}(h:P.underlying t=some (.slice e))(A:Sz P e s)(B:ev ρ x= .slice a n c)(C:ev ρ lo= .int kl l)
    (D:0<=l)(h1:l<=n):Do P ⟨d,.slice t x (some lo) none none,ty,pos,af,g⟩ ρ w (sliced a l.toNat n c s) w:=by
 have r:P.elem t=e:=by simp [Program.elem,h]
 have f:P.underlying t=some (.slice (P.elem t)):=by rw [r];exact h
 unfold Do;simp [execOp,B,C,run_sliceAt_slice w t _ _ _ _ f,run_slice_l w t a n c f kl l D h1,r,bQ A]
theorem aXt {kh:IntKind}{h:Int}{hi:Operand}{a:Option Addr}(l:P.underlying t=some (.slice e))(A:Sz P e s)(B:ev ρ x= .slice a n c)(hh:ev ρ hi= .int kh h)
    (C:0<=h)(D:h<=c):Do P ⟨d,.slice t x none (some hi) none,ty,pos,af,g⟩ ρ w (sliced a 0 h.toNat c s) w:=by
 have r:P.elem t=e:=by simp [Program.elem,l]
 have f:P.underlying t=some (.slice (P.elem t)):=by rw [r];exact l
 unfold Do;simp [execOp,B,hh,run_sliceAt_slice w t _ _ _ _ f,run_slice_h w t a n c f kh h C D,r,bQ A]
theorem Do_slicea (f:P.underlying t=some (.array n e))(A:Sz P e s)(B:ev ρ x= .pointer (some ⟨b,o,none⟩)):
    Do P ⟨d,.slice t x none none none,ty,pos,af,g⟩ ρ w (.slice (some ⟨b,o,none⟩) n n) w:=by
 have l:P.elem t=e:=by simp [Program.elem,f]
 have r:P.arrayLen t=n:=by simp [Program.arrayLen,f]
 have h:P.underlying t=some (.array (P.arrayLen t) (P.elem t)):=by rw [l,r];exact f
 unfold Do;simp [execOp,B,run_sliceAt_array_all w t ⟨b,o,none⟩ h,l,r,bQ A,slicedAt,Addr.add_none]
end ops


theorem aCo (n:Int)(h:0<=n)(f:n<2^62):IntKind.i64.wrap n=n:=wrap_i64 (by omega) (by omega)
theorem wrapn_u16 (n:Int)(h:0<=n)(f:n<2^16):IntKind.u16.wrap n=n:=wrap_u16 (by omega) (by omega)
theorem aFi {a m c:Int}(i:Nat)(hi:i<=62)(hm:(2:Int)^i=m)(f:0<=a)(h1:a<4611686018427387904)(h:c+1=m:=by rfl):bits .and .i64 a c=a%m:=by
 have:c=2^i-1:=by omega
 rw [this,<-hm];exact bits_mask .i64 62 (by decide) aCo i hi a f (by simpa using h1)
theorem aEo {a m c:Int}(i:Nat)(hi:i<=16)(hm:(2:Int)^i=m)(f:0<=a)(h1:a<65536)(h:c+1=m:=by rfl):bits .and .u16 a c=a%m:=by
 have:c=2^i-1:=by omega
 rw [this,<-hm];exact bits_mask .u16 16 (by decide) wrapn_u16 i hi a f (by simpa using h1)
theorem aJg {a b m:Int}(i:Nat)(hm:(2:Int)^i=m)(f:0<=a)(h1:a<4611686018427387904)(hd:a%m=0)(h:0<=b)(l:b<m)(r:b<4611686018427387904):bits .or .i64 a b=a+b:=by
 subst hm;exact bits_join .i64 62 (by decide) aCo i a b f hd (by simpa using h1) h l (by simpa using r)
theorem or_comm {k:IntKind}{a b:Int}:bits .or k a b=bits .or k b a:=by unfold bits;simp [BitVec.or_comm]

theorem xor_nat (k:IntKind)(j:Nat)(C:j<=k.bits)(hk: ∀n:Int,0<=n->n<2^j->k.wrap n=n)(a b:Nat)(r:a<2^j)(A:b<2^j):
    bits .xor k a b=((a^^^b:Nat):Int):=by
 have B:2^j<=2^k.bits:=Nat.pow_le_pow_right (by decide) C;have f:a%2^k.bits=a:=Nat.mod_eq_of_lt (Nat.lt_of_lt_of_le r B);have l:b%2^k.bits=b:=Nat.mod_eq_of_lt (Nat.lt_of_lt_of_le A B);have cast: ∀n:Nat,n<2^j->((n:Nat):Int)<2^j:=λn h=>by exact_mod_cast h
 simp only [bits,BitVec.ofInt_natCast,BitVec.toNat_xor,BitVec.toNat_ofNat,f,l];exact hk _ (Int.natCast_nonneg _) (cast _ (Nat.xor_lt_two_pow r A))
theorem aPe (a b:Nat)(f:a<4611686018427387904)(h:b<4611686018427387904):bits .xor .i64 a b=((a^^^b:Nat):Int):=
 xor_nat .i64 62 (by decide) aCo a b (by simpa using f) (by simpa using h)
theorem aUh {x y:Int}(a b:Nat)(f:x=a)(h:y=b)(l:a<4611686018427387904)(r:b<4611686018427387904):bits .xor .i64 x y=((a^^^b:Nat):Int):=by subst f h;exact aPe a b l r
theorem yK {P:Program}{o:Oper}{ρ:Env}{w w':World}{v f:Value}(h:Do P o ρ w v w')(e:v=f):Do P o ρ w f w':=e▸h
theorem and_top {n:Nat}(h:n<4194304):bits .and .i64 (n:Int) 2097152=if 2097152<=n then 2097152 else 0:=by
 have h1:=(bits_nat .i64 62 (by decide) aCo n 2097152 (by omega) (by decide)).1;have f:n&&& 2^21=n/2^21%2*2^21:=nat_bit 21 n;simp only [Nat.reducePow]at f;rw [show((2097152:Int))=((2097152:Nat):Int)from rfl,h1,f];split<;>omega
end Go.OB
