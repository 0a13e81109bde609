/- Laws that the claim stands on; no condition beyond those stated. -/
import Derived.WalkKit
import Derived.WalkSpells
import Derived.WalkLawsBesides
import Derived.Deep.Quiet
theorem qD {p:Prop} [Decidable p] (h: ¬p):decide p=false:=decide_eq_false h
theorem dT {p:Prop} [Decidable p] (h:p):decide p=true:=decide_eq_true h
theorem qS {f:Type _}{l:List f}{i:Nat}{a:f} (e:l[i]? =some a):a∈l:=List.mem_of_getElem? e
theorem oI {f:Type _}{a b:f} (h:some a=some b):a=b:=Option.some.inj h
theorem gE {f:Type _}{l:List f}{i:Nat} (h:i<l.length):l[i]? =some l[i]:=List.getElem?_eq_getElem h
theorem gS {f:Type _}{l:List f}{i:Nat}{a:f}:l[i]? =some a↔ ∃h:i<l.length,l[i]=a:=List.getElem?_eq_some_iff
theorem mA {f:Type _}{a:f}{s t:List f}:a∈s++t↔a∈s\/a∈t:=List.mem_append
theorem mS {f:Type _}{a b:f}:a∈ [b]↔a=b:=List.mem_singleton
namespace Go.OB
open Go.RowKit

abbrev Env:=Nat->Value
def upd (ρ:Env)(d:Nat)(v:Value):Env:=λi=>if i=d then v else ρ i
def updo (ρ:Env):Option Tmp->Value->Env
 |some d,v=>upd ρ d v
 |none,_=>ρ
def ev (ρ:Env):Operand->Value
 | .tmp t=>ρ t
 | .const v=>v
 | .global g=> .pointer (some ⟨g,0,none⟩)
 | .func f=> .func (.func f) #[] #[]
def aSf (N:Nat):Option Tmp->Bool
 |some d=>decide (d<N)
 |none=>true

structure Fits (N:Nat)(a:Act)(ρ:Env):Prop where
 size:a.tmps.size=N
 dfr:a.defers=[]
 get: ∀i,a.tmps.getD i undef=ρ i

theorem Fits.eval {N:Nat}{a:Act}{ρ:Env}(h:Fits N a ρ):a.eval=ev ρ:=by
 funext x;cases x<;>simp only [Act.eval,ev,h.get]

theorem Fits.put {N:Nat}{a:Act}{ρ:Env}(h:Fits N a ρ){d:Option Tmp}(hd:aSf N d=true)(v:Value):
  Fits N (a.put d v) (updo ρ d v):=by
 cases d with
 |none=>exact h
 |some d=>
  have f:d<a.tmps.size:=by rw [h.size];simpa [aSf]using hd
  refine⟨by simp [Act.put,h.size],by simp [Act.put,h.dfr],λi=>?_⟩;show(a.tmps.setIfInBounds d v).getD i undef=upd ρ d v i;unfold upd;rw [<-h.get i];simp only [Array.getD_eq_getD_getElem?,Array.getElem?_setIfInBounds]
  by_cases hi:i=d
  ·subst hi;simp [f]
  ·simp [hi,Ne.symm hi]

def aEe (N:Nat)(Q:Exit->Env->World->Prop):Exit->Act->World->Prop:=λe a w=> ∃ρ,Fits N a ρ/\Q e ρ w

def WP (P:Program)(N:Nat)(c:Code)(Q:Exit->Env->World->Prop)(ρ:Env)(w:World):Prop:=
 ∀a,Fits N a ρ->c.wp P (aEe N Q) a w

def mX (K:Env->World->Prop)(Q:Exit->Env->World->Prop):Exit->Env->World->Prop
 | .normal,ρ,w=>K ρ w
 |e,ρ,w=>Q e ρ w

def aGd (id:Nat)(Q:Exit->Env->World->Prop):Exit->Env->World->Prop
 | .exit f,ρ,w=>if f=id then Q .normal ρ w else Q (.exit f) ρ w
 |e,ρ,w=>Q e ρ w

section wp
variable {P:Program}{N:Nat}{Q:Exit->Env->World->Prop}{ρ:Env}{w:World}

theorem WP.mono {c:Code}{f:Exit->Env->World->Prop}(h:WP P N c Q ρ w)(A: ∀e ρ w,Q e ρ w->f e ρ w):WP P N c f ρ w:=
 λa B=>wp_mono (h a B) λ_ _ _ ⟨ρ,C,D⟩=>⟨ρ,C,A _ _ _ D⟩

theorem aUq {x y:Code}{K:Env->World->Prop}(h:WP P N x (mX K Q) ρ w)(C: ∀ρ w,K ρ w->WP P N y Q ρ w):WP P N (.seq x y) Q ρ w:=by
 intro a D;refine wp_seq (wp_mono (h a D) ?_);rintro e a' w' ⟨f,A,B⟩
 cases e<;>first |exact C _ _ B a' A|exact⟨f,A,B⟩

theorem xB {x y:Code}(h: ∀K:Env->World->Prop,(∀ρ w,WP P N y Q ρ w->K ρ w)->WP P N x (mX K Q) ρ w):WP P N (.seq x y) Q ρ w:=
 aUq (h _ λ_ _ h=>h) λ_ _ h=>h

theorem yE (h:Q .normal ρ w):WP P N .skip Q ρ w:=λ_ f=>wp_skip ⟨ρ,f,h⟩
theorem zX {id:Nat}(h:Q (.exit id) ρ w):WP P N (.exit id) Q ρ w:=λ_ f=>wp_exit ⟨ρ,f,h⟩
theorem zH (h:Q .ret ρ w):WP P N .ret Q ρ w:=λ_ f=>wp_ret ⟨ρ,f,h⟩

theorem zI {id:Nat}{c:Code}(h:WP P N c (aGd id Q) ρ w):WP P N (.block id c) Q ρ w:=by
 intro a D;refine wp_block (wp_mono (h a D) ?_);rintro e _ w' ⟨f,C,B⟩
 cases e with
 |exit _=>
  simp only [aGd]at B;simp only [Exit.inBlock];split
  ·rename_i A;rw [if_pos A]at B;exact⟨f,C,B⟩
  ·rename_i A;rw [if_neg A]at B;exact⟨f,C,B⟩
 |_=>exact⟨f,C,B⟩

theorem WP_if {c:Operand}{x y:Code}{p:Prop} [Decidable p] (A:ev ρ c= .bool (decide p))(B:p->WP P N x Q ρ w)(C: ¬p->WP P N y Q ρ w):WP P N (.cond c x y) Q ρ w:=by
 intro a f;refine wp_cond_split (t:=decide p) (by rw [f.eval];exact A) (λh=>B (by simpa using h) a f) (λh=>C (by simpa using h) a f)

theorem aDg {c:Operand}{x y:Code}{b:Bool}(A:ev ρ c= .bool b)(B:b=true->WP P N x Q ρ w)(C:b=false->WP P N y Q ρ w):WP P N (.cond c x y) Q ρ w:=by
 intro a f;exact wp_cond_split (t:=b) (by rw [f.eval];exact A) (λh=>B h a f) (λh=>C h a f)

theorem zG {K:Env->World->Prop}(h:K ρ w):mX K Q .normal ρ w:=h
theorem zF {K:Env->World->Prop}(h:Q .ret ρ w):mX K Q .ret ρ w:=h
theorem zL {K:Env->World->Prop}{i:Nat}(h:Q (.exit i) ρ w):mX K Q (.exit i) ρ w:=h
theorem zO {id:Nat}(h:Q .normal ρ w):aGd id Q .normal ρ w:=h
theorem zN {id:Nat}(h:Q .ret ρ w):aGd id Q .ret ρ w:=h
theorem zS {id:Nat}(h:Q .normal ρ w):aGd id Q (.exit id) ρ w:=by simp only [aGd,if_true];exact h
theorem wp_loop_ghost {c:Code}{G:Type}{Q:Exit->Act->World->Prop}{a:Act}{w:World}(I:G->Act->World->Prop)(S:G->Nat)(g:G)(J:I g a w)
  (E: ∀g a w,I g a w->c.wp P (Exit.then (λa' w'=> ∃g',I g' a' w'/\S g'<S g) Q) a w):(Code.loop c).wp P Q a w:=by
 intro b k cs;have X: ∀n g a w,S g=n->I g a w->
   ∃e a' w',Q e a' w'/\Arrives P (lone (b.at a (.code c:: .inLoop c::k)) cs w) b k cs e a' w':=by
  intro n
  induction n using Nat.strongRecOn with
  |_ n ih=>
   intro g a w hn hI;obtain⟨e,h,A,C,f⟩:=E g a w hI b (.inLoop c::k) cs
   cases e with
   |normal=>
    obtain⟨D,F,Y⟩:=C;obtain⟨L,M,O,H,B⟩:=ih (S D) (hn▸Y) D h A rfl F;exact⟨L,M,O,H,.of_steps (Steps.trans f (.one step_inLoop)) B⟩
   |exit id=>exact⟨_,h,A,C,.pass (x:= .inLoop c) rfl (λ_ _=> .inl (by simp)) f⟩
   |goto l=>exact⟨_,h,A,C,.pass (x:= .inLoop c) rfl (λ_ _=> .inl (by simp)) f⟩
   |ret=>exact⟨_,h,A,C,.pass (x:= .inLoop c) rfl (λ_ _=> .inl (by simp)) f⟩
   |panic _=>exact⟨_,h,A,C,.pass (x:= .inLoop c) rfl (λ_ _=> .inl (by simp)) f⟩
   |outgrown=>exact⟨_,h,A,C,.pass (x:= .inLoop c) rfl (λ_ _=> .inl (by simp)) f⟩
 obtain⟨e,a',w',C,f⟩:=X _ g a w rfl J;exact⟨e,a',w',C,.of_steps (.one step_loop) f⟩

theorem WP_loopg {c:Code}{G:Type}(I:G->Env->World->Prop)(D:G->Nat)(g:G)(A:I g ρ w)
  (h: ∀g ρ w,I g ρ w->WP P N c (mX (λf w'=> ∃C,I C f w'/\D C<D g) Q) ρ w):WP P N (.loop c) Q ρ w:=by
 intro a J;refine wp_loop_ghost (λg a w=> ∃ρ,Fits N a ρ/\I g ρ w) D g ⟨ρ,J,A⟩ ?_;rintro g a w ⟨ρ,L,M⟩;refine wp_mono (h g ρ w M a L) ?_;rintro e _ w' ⟨f,B,H⟩
 cases e with
 |normal=>obtain⟨C,E,F⟩:=H;exact⟨C,⟨f,B,E⟩,F⟩
 |_=>exact⟨f,B,H⟩
end wp

def aLz:List Value->Env
 | [],_=>undef
 |v::_,0=>v
 |_::l,i+1=>aLz l i

theorem aJr: ∀(l:List Value) (i:Nat),l.getD i undef=aLz l i
 | [],i=>by simp [aLz]
 |v::l,0=>by simp [aLz]
 |v::l,i+1=>by
  have:=aJr l i;simpa [aLz]using this

def bJ (rs:Array ResultVar)(ρ:Env):Sem Value:=do
 let vs <-rs.mapM λ
  | .tmp t=>pure (ρ t)
  | .cell a t=>do loadVar t (<-asAddr (ρ a))
 pure (if h:vs.size=1 then vs[0]else .tuple vs)

theorem aHg {fn:Func}{a:Act}{N:Nat}{ρ:Env}(h:Fits N a ρ):results fn a.tmps=bJ fn.results ρ:=by
 unfold results bJ;simp only [h.get];rfl

def aAg (P:Program)(rs:Array ResultVar)(R:Ending->World->Prop):Exit->Env->World->Prop
 | .normal,ρ,w| .ret,ρ,w=> ∃v,(bJ rs ρ).run P w= .ok v w/\R (.returned v) w
 | .panic f,_,w=>R (.panicked f) w
 |_,_,_=>False

theorem rE {P:Program}{f:FuncId}{fn:Func}{c:Code}{args:List Value}{w:World}{R:Ending->World->Prop} (N:Nat)
  (A:P.funcs[f]? =some fn) (G:fn.body=some c) (H:fn.ntmps=N) (F:Nat.ble args.length N=true)
  (h:WP P N c (aAg P fn.results R) (aLz args) w):Calls P f args.toArray w R:=by
 refine calls_of_wp A G ?_;have F:=Nat.le_of_ble_eq_true F;subst H;have B:Fits fn.ntmps {tmps:=args.toArray++Array.replicate (fn.ntmps-args.toArray.size) undef,defers:=[]} (aLz args):=by
  refine⟨by simp;omega,rfl,λi=>?_⟩;rw [<-aJr];simp only [Array.getD_eq_getD_getElem?,Array.getElem?_append,List.getD_eq_getElem?_getD,List.size_toArray,Array.getElem?_replicate,List.getElem?_toArray];split
  ·rfl
  ·rename_i _;rw [List.getElem?_eq_none (by omega)];split<;>rfl
 refine wp_mono (h _ B) ?_;rintro e a w ⟨ρ,A,C⟩
 cases e<;>simp only [aAg]at C<;>simp only [bodyPost]
 case normal=>obtain⟨v,D,E⟩:=C;exact⟨A.dfr,v,by rw [aHg A];exact D,E⟩
 case ret=>obtain⟨v,D,E⟩:=C;exact⟨A.dfr,v,by rw [aHg A];exact D,E⟩
 case panic ch=>exact⟨A.dfr,C⟩

section res
variable {P:Program}{ρ:Env}{w:World}{R:Ending->World->Prop}
theorem ret0 (h:R (.returned (.tuple #[])) w): ∃v,(bJ #[] ρ).run P w= .ok v w/\R (.returned v) w:=
 ⟨_,by simp [bJ],h⟩
theorem ret1 {t:Tmp}(h:R (.returned (ρ t)) w): ∃v,(bJ #[.tmp t] ρ).run P w= .ok v w/\R (.returned v) w:=
 ⟨_,by simp [bJ],h⟩
theorem ret2 {t u:Tmp}(h:R (.returned (.tuple #[ρ t,ρ u])) w): ∃v,(bJ #[.tmp t,.tmp u] ρ).run P w= .ok v w/\R (.returned v) w:=
 ⟨_,by simp [bJ],h⟩
theorem ret3 {t u x:Tmp}(h:R (.returned (.tuple #[ρ t,ρ u,ρ x])) w): ∃v,(bJ #[.tmp t,.tmp u,.tmp x] ρ).run P w= .ok v w/\R (.returned v) w:=
 ⟨_,by simp [bJ],h⟩
theorem retc1 {t:Tmp}{ty:TypeId}{a:Addr}{v:Value}(f:ρ t= .pointer (some a))(A:(loadVar ty a).run P w= .ok v w)(h:R (.returned v) w):
  ∃v,(bJ #[.cell t ty] ρ).run P w= .ok v w/\R (.returned v) w:=
 ⟨_,by simp [bJ,f,asAddr,A],h⟩
theorem retc1t1 {t u:Tmp}{ty:TypeId}{a:Addr}{v:Value}(f:ρ t= .pointer (some a))(A:(loadVar ty a).run P w= .ok v w)(h:R (.returned (.tuple #[v,ρ u])) w):
  ∃v,(bJ #[.cell t ty,.tmp u] ρ).run P w= .ok v w/\R (.returned v) w:=
 ⟨_,by simp [bJ,f,asAddr,A],h⟩
theorem retc1t2 {t u x:Tmp}{ty:TypeId}{a:Addr}{v:Value}(f:ρ t= .pointer (some a))(A:(loadVar ty a).run P w= .ok v w)(h:R (.returned (.tuple #[v,ρ u,ρ x])) w):
  ∃v,(bJ #[.cell t ty,.tmp u,.tmp x] ρ).run P w= .ok v w/\R (.returned v) w:=
 ⟨_,by simp [bJ,f,asAddr,A],h⟩
variable {rs:Array ResultVar}{v1 v2 v3:Value}{t u x:Tmp}{ty:TypeId}{a:Addr}{v:Value}
theorem aNm (f:rs= #[])(h:R (.returned (.tuple #[])) w):aAg P rs R .ret ρ w:=by subst f;exact ret0 h
theorem aW (f:rs= #[])(h:R (.returned (.tuple #[])) w):aAg P rs R .normal ρ w:=by subst f;exact ret0 h
theorem aJm (f:rs= #[.tmp t])(A:ρ t=v1)(h:R (.returned v1) w):aAg P rs R .ret ρ w:=by subst f A;exact ret1 h
theorem eQ (f:rs= #[.tmp t,.tmp u])(A:ρ t=v1)(B:ρ u=v2)(h:R (.returned (.tuple #[v1,v2])) w):aAg P rs R .ret ρ w:=by subst f A B;exact ret2 h
theorem post3 (f:rs= #[.tmp t,.tmp u,.tmp x])(A:ρ t=v1)(B:ρ u=v2)(C:ρ x=v3)(h:R (.returned (.tuple #[v1,v2,v3])) w):aAg P rs R .ret ρ w:=by subst f A B C;exact ret3 h
theorem bD (f:rs= #[.cell t ty])(A:ρ t= .pointer (some a))(B:(loadVar ty a).run P w= .ok v w)(h:R (.returned v) w):aAg P rs R .ret ρ w:=by subst f;exact retc1 A B h
theorem aV (f:rs= #[.cell t ty,.tmp u])(A:ρ t= .pointer (some a))(B:(loadVar ty a).run P w= .ok v w)(C:ρ u=v1)(h:R (.returned (.tuple #[v,v1])) w):aAg P rs R .ret ρ w:=by subst f C;exact retc1t1 A B h
theorem aOm (f:rs= #[.cell t ty,.tmp u,.tmp x])(A:ρ t= .pointer (some a))(B:(loadVar ty a).run P w= .ok v w)(C:ρ u=v1)(D:ρ x=v2)(h:R (.returned (.tuple #[v,v1,v2])) w):aAg P rs R .ret ρ w:=by subst f C D;exact retc1t2 A B h
end res

def fM (N:Nat)(ops:Array Oper)(ρ:Env)(o:Oper):Bool:=
 match o.guard with
 |none=>true
 |some (j,b)=>match (ops[j]?).bind (·.dst)with
  |some d=>decide (d<N)&&(match ρ d with | .bool x=>x==b|_=>false)
  |none=>false

theorem Fits.wanted {N:Nat}{a:Act}{ρ:Env} (h:Fits N a ρ) (ops:Array Oper) (o:Oper):Region.wanted o (yielded ops a.tmps)=fM N ops ρ o:=by
 unfold Region.wanted fM yielded
 cases o.guard with
 |none=>rfl
 |some B=>
  obtain⟨j,b⟩:=B;simp only
  cases hd:(ops[j]?).bind (·.dst)with
  |none=>simp
  |some d=>
   simp only [Option.bind_some]
   by_cases f:d<N
   ·have A:a.tmps[d]? =some (ρ d):=by
     have:=h.get d;rw [Array.getD_eq_getD_getElem?]at this;rw [Array.getElem?_eq_getElem (by rw [h.size];exact f)]at this⊢;simpa using this
    rw [A];simp only [f,decide_true,Bool.true_and]
    cases ρ d<;>simp
   ·have A:a.tmps[d]? =none:=Array.getElem?_eq_none (by rw [h.size];exact Nat.not_lt.mp f);rw [A];simp [f]

def RL (P:Program)(N:Nat)(ops:Array Oper)(Q:Exit->Env->World->Prop)(l:List Oper)(ρ:Env)(w:World):Prop:=
 ∀a,Fits N a ρ->wpList P ops (aEe N Q) l a w

def Do (P:Program)(o:Oper)(ρ:Env)(w:World)(v:Value)(w':World):Prop:=(execOp (ev ρ) o).run P w= .ok (.value v) w'
def DoU (P:Program)(o:Oper)(ρ:Env)(w w':World):Prop:=(execOp (ev ρ) o).run P w= .ok .skip w'
def DoC (P:Program)(o:Oper)(ρ:Env)(w:World)(f:FuncId)(args:Array Value):Prop:=(execOp (ev ρ) o).run P w= .ok (.enter f args) w

section rl
variable {P:Program}{N:Nat}{ops:Array Oper}{Q:Exit->Env->World->Prop}{o:Oper}{rest:List Oper}{ρ:Env}{w w':World}{v:Value}{d:Nat}{op:Op}{ty:TypeId}{pos:String}{af:Array Edge}{g:Option (Nat×Bool)}

theorem zD {id:Nat}{l:List Oper}(h:RL P N l.toArray Q l ρ w):WP P N (.region id l.toArray false) Q ρ w:=
 λa f=>wp_region_lit (h a f)

theorem yL (h:Q .normal ρ w):RL P N ops Q [] ρ w:=λ_ f=>wpList_nil ⟨ρ,f,h⟩

theorem wE (hd:Nat.blt d N=true):aSf N (some d)=true:=by
 have h:d+1<=N:=by simpa [Nat.blt]using hd
 simp only [aSf,decide_eq_true_eq];exact Nat.lt_of_succ_le h

theorem aF (A:fM N ops ρ ⟨some d,op,ty,pos,af,g⟩=true)(hd:Nat.blt d N=true)(h:Do P ⟨some d,op,ty,pos,af,g⟩ ρ w v w')(k:RL P N ops Q rest (upd ρ d v) w'):RL P N ops Q (⟨some d,op,ty,pos,af,g⟩::rest) ρ w:=by
 intro a f;unfold wpList;rw [f.wanted,A,if_pos rfl];refine .inl ?_;unfold Oper.wp;rw [f.eval,show(execOp (ev ρ) _).run P w=_ from h];exact k _ (f.put (wE hd) v)

theorem RL_doU (A:fM N ops ρ ⟨none,op,ty,pos,af,g⟩=true)(h:DoU P ⟨none,op,ty,pos,af,g⟩ ρ w w')(k:RL P N ops Q rest ρ w'):RL P N ops Q (⟨none,op,ty,pos,af,g⟩::rest) ρ w:=by
 intro a f;unfold wpList;rw [f.wanted,A,if_pos rfl];refine .inl ?_;unfold Oper.wp;rw [f.eval,show(execOp (ev ρ) _).run P w=_ from h];exact k _ f
theorem RL_off (h:fM N ops ρ ⟨some d,op,ty,pos,af,g⟩=false)(hd:Nat.blt d N=true)(k:RL P N ops Q rest (upd ρ d undef) w):RL P N ops Q (⟨some d,op,ty,pos,af,g⟩::rest) ρ w:=by
 intro a f;unfold wpList;rw [f.wanted,h,if_neg (by simp)];exact k _ (f.put (wE hd) _)

theorem xC {f:FuncId}{args:Array Value}{R:Ending->World->Prop}(C:fM N ops ρ ⟨some d,op,ty,pos,af,g⟩=true)(hd:Nat.blt d N=true)(h:DoC P ⟨some d,op,ty,pos,af,g⟩ ρ w f args)
    (D:Calls P f args w R)(k: ∀e w',R e w'-> ∃v,e= .returned v/\RL P N ops Q rest (upd ρ d v) w'):RL P N ops Q (⟨some d,op,ty,pos,af,g⟩::rest) ρ w:=by
 intro a A;unfold wpList;rw [A.wanted,C,if_pos rfl];refine .inl ?_;unfold Oper.wp;rw [A.eval,show(execOp (ev ρ) _).run P w=_ from h];refine D.mono λe B E=>?_;obtain⟨v,rfl,F⟩:=k e B E;exact F _ (A.put (wE hd) v)
theorem RL_splitb {b:Bool}{x:Operand}(f:fM N ops ρ ⟨some d,.move x,ty,pos,af,g⟩=true)(hd:Nat.blt d N=true)(h:ev ρ x= .bool b)
    (A:b=true->RL P N ops Q rest (upd ρ d (.bool true)) w)(B:b=false->RL P N ops Q rest (upd ρ d (.bool false)) w):RL P N ops Q (⟨some d,.move x,ty,pos,af,g⟩::rest) ρ w:=by
 refine aF (v:= .bool b) (w':=w) f hd (by unfold Do;simp [execOp,h]) ?_;cases b;exact B rfl;exact A rfl

def fJ (w w':World):Prop:=Below w.heap.size w w'

variable {K:Env->Prop}
end rl

def aVi:List (Nat×Value)->Nat->Option Value
 | [],_=>none
 |(j,v)::l,i=>if i=j then some v else aVi l i
def Sl (ρ:Env)(l:List (Nat×Value)):Prop:= ∀i v,aVi l i=some v->ρ i=v
def over (f ρ:Env)(W:List Nat)(l:List (Nat×Value)):Env:=λi=>
 match aVi l i with
 |some v=>v
 |none=>if W.contains i then ρ i else f i
def Fr (W:List Nat)(f ρ:Env):Prop:= ∀i,W.contains i=false->ρ i=f i

theorem yF {ρ:Env}:Sl ρ []:=λi v h=>by simp [aVi]at h
theorem yB {ρ:Env}{j:Nat}{v:Value}{l:List (Nat×Value)}(h:ρ j=v)(A:Sl ρ l):Sl ρ ((j,v)::l):=by
 intro i u f;unfold aVi at f;split at f;rename_i hi;subst hi;cases f;exact h;exact A i u f
theorem aPx {f ρ:Env}{W:List Nat}{l:List (Nat×Value)} (A:Fr W f ρ) (B:Sl ρ l):over f ρ W l=ρ:=by
 funext i;unfold over;split;rename_i v C;exact(B i v C).symm;split;rfl;rename_i h;exact(A i (by simpa using h)).symm
theorem aEy {W:List Nat}{ρ:Env}:Fr W ρ ρ:=λ_ _=>rfl
theorem aPf {W:List Nat}{f ρ:Env}{d:Nat}{v:Value}(hd:W.contains d=true)(h:Fr W f ρ):Fr W f (upd ρ d v):=by
 intro i hi;unfold upd;rw [if_neg (λe=>by subst e;rw [hd]at hi;cases hi)];exact h i hi
theorem aNb {W:List Nat}: ∀{l:List (Nat×Value)}{i:Nat},(l.all λp=>W.contains p.1)=true->W.contains i=false->aVi l i=none
 | [],_,_,_=>rfl
 |(j,v)::l,i,f,hi=>by
  simp only [List.all_cons,Bool.and_eq_true]at f;unfold aVi;rw [if_neg (λe=>by subst e;rw [f.1]at hi;cases hi)];exact aNb f.2 hi
theorem aIt {W B:List Nat}{f ρ A:Env}{l:List (Nat×Value)}(C:(l.all λp=>W.contains p.1)=true)(D:(B.all λi=>W.contains i)=true)(h:Fr W f ρ):Fr W f (over ρ A B l):=by
 intro i hi;unfold over;rw [aNb C hi];simp only;have E:B.contains i=false:=by
  cases h':B.contains i with
  |false=>rfl
  |true=>
   have hm:i∈B:=by simpa using h'
   have:=List.all_eq_true.1 D i hm;rw [this]at hi;cases hi
 rw [E];exact h i hi

section loops
variable {P:Program}{N:Nat}{Q:Exit->Env->World->Prop}{ρ:Env}{w:World}
theorem aSh {c:Code}{G:Type}(W:List Nat)(S:G->List (Nat×Value))(I:G->World->Prop)(D:G->Nat)(g:G)(E:Sl ρ (S g))(F:I g w)
  (B: ∀g f w,I g w->WP P N c (mX (λA w'=>Fr W ρ A/\ ∃C,Sl A (S C)/\I C w'/\D C<D g) Q) (over ρ f W (S g)) w):WP P N (.loop c) Q ρ w:=by
 refine WP_loopg (λg A w=>Fr W ρ A/\Sl A (S g)/\I g w) D g ⟨aEy,E,F⟩ ?_;rintro g f w ⟨J,E,F⟩;have h:=B g f w F;rw [aPx J E]at h;refine h.mono ?_;intro e A w' H
 cases e<;>first |(obtain⟨L,C,M,O,X⟩:=H;exact⟨C,⟨L,M,O⟩,X⟩)|exact H
theorem aIj {x y:Code}{G:Type}(W:List Nat)(S:G->List (Nat×Value))(I:G->World->Prop)
    (h:WP P N x (mX (λf w'=>Fr W ρ f/\ ∃g,Sl f (S g)/\I g w') Q) ρ w)(k: ∀g A w,I g w->WP P N y Q (over ρ A W (S g)) w):WP P N (.seq x y) Q ρ w:=by
 refine aUq h ?_;rintro f w' ⟨B,g,C,D⟩;have:=k g f w' D;rwa [aPx B C]at this
end loops

theorem wrap_i64 {n:Int}(h: -9223372036854775808<=n)(f:n<=9223372036854775807):IntKind.i64.wrap n=n:=by rw [IntKind.wrap_i64];omega
theorem wrap_u8 {n:Int}(h:0<=n)(f:n<256):IntKind.u8.wrap n=n:=by rw [IntKind.wrap_u8];omega
theorem wrap_u16 {n:Int}(h:0<=n)(f:n<65536):IntKind.u16.wrap n=n:=by rw [IntKind.wrap_u16];omega
theorem wrap_u64 {n:Int}(h:0<=n)(f:n<18446744073709551616):IntKind.u64.wrap n=n:=by rw [IntKind.wrap_u64];omega

section ops
variable {P:Program}{ρ:Env}{w:World}{d:Option Tmp}{x y z:Operand}{t u ty:TypeId}{pos:String}{af:Array Edge}{g:Option (Nat×Bool)}
variable {k k':IntKind}{a b c m:Int}{v:Value}{p q:Bool}

theorem aA (f:ev ρ x=v):Do P ⟨d,.move x,ty,pos,af,g⟩ ρ w v w:=by unfold Do;simp [execOp,f]
theorem yT (f:ev ρ x=v):Do P ⟨d,.assign x,ty,pos,af,g⟩ ρ w v w:=by unfold Do;simp [execOp,f]
theorem dA (f:ev ρ x= .bool true)(h:ev ρ y=v):Do P ⟨d,.pick x y z,ty,pos,af,g⟩ ρ w v w:=by unfold Do;simp [execOp,f,h,asBool]
theorem dX (f:ev ρ x= .bool false)(h:ev ρ z=v):Do P ⟨d,.pick x y z,ty,pos,af,g⟩ ρ w v w:=by unfold Do;simp [execOp,f,h,asBool]

theorem nR (f:ev ρ x= .int k a)(h:ev ρ y= .int k b)(A:k.wrap (a+b)=c):Do P ⟨d,.binOp .add t x y u,ty,pos,af,g⟩ ρ w (.int k c) w:=by
 unfold Do;simp [execOp,f,h,eqGuard,binOp,Op.intArith,A]
theorem bG (f:ev ρ x= .int k a)(h:ev ρ y= .int k b)(A:k.wrap (a-b)=c):Do P ⟨d,.binOp .sub t x y u,ty,pos,af,g⟩ ρ w (.int k c) w:=by
 unfold Do;simp [execOp,f,h,eqGuard,binOp,Op.intArith,A]
theorem aCb (f:ev ρ x= .int k a)(h:ev ρ y= .int k b)(A:k.wrap (a*b)=c):Do P ⟨d,.binOp .mul t x y u,ty,pos,af,g⟩ ρ w (.int k c) w:=by
 unfold Do;simp [execOp,f,h,eqGuard,binOp,Op.intArith,A]
theorem Do_tquo (f:ev ρ x= .int k a)(h:ev ρ y= .int k b)(A:b≠0)(B:k.wrap (a.tdiv b)=c):Do P ⟨d,.binOp .quo t x y u,ty,pos,af,g⟩ ρ w (.int k c) w:=by
 unfold Do;simp [execOp,f,h,eqGuard,binOp,Op.intDiv,A,B]
theorem Do_trem (f:ev ρ x= .int k a)(h:ev ρ y= .int k b)(A:b≠0):Do P ⟨d,.binOp .rem t x y u,ty,pos,af,g⟩ ρ w (.int k (a.tmod b)) w:=by
 unfold Do;simp [execOp,f,h,eqGuard,binOp,Op.intDiv,A]

theorem uU (f:ev ρ x= .int k a)(h:ev ρ y= .int k b):Do P ⟨d,.binOp .lss t x y u,ty,pos,af,g⟩ ρ w (.bool (decide (a<b))) w:=by
 unfold Do;simp [execOp,f,h,eqGuard,binOp,Op.intCmp]
theorem aDk (f:ev ρ x= .int k a)(h:ev ρ y= .int k b):Do P ⟨d,.binOp .leq t x y u,ty,pos,af,g⟩ ρ w (.bool (decide (a<=b))) w:=by
 unfold Do;simp [execOp,f,h,eqGuard,binOp,Op.intCmp]
theorem vJ (f:ev ρ x= .int k a)(h:ev ρ y= .int k b):Do P ⟨d,.binOp .gtr t x y u,ty,pos,af,g⟩ ρ w (.bool (decide (b<a))) w:=by
 unfold Do;simp [execOp,f,h,eqGuard,binOp,Op.intCmp]
theorem Do_geq (f:ev ρ x= .int k a)(h:ev ρ y= .int k b):Do P ⟨d,.binOp .geq t x y u,ty,pos,af,g⟩ ρ w (.bool (decide (b<=a))) w:=by
 unfold Do;simp [execOp,f,h,eqGuard,binOp,Op.intCmp]
theorem aGl (f:ev ρ x= .int k a)(A:ev ρ y= .int k b):Do P ⟨d,.binOp .eql t x y u,ty,pos,af,g⟩ ρ w (.bool (decide (a=b))) w:=by
 have h:(a==b)=decide (a=b):=by rw [Bool.eq_iff_iff];simp
 unfold Do;simp [execOp,f,A,eqGuard,binOp,Op.intCmp,h]
theorem aDt (f:ev ρ x= .int k a)(A:ev ρ y= .int k b):Do P ⟨d,.binOp .neq t x y u,ty,pos,af,g⟩ ρ w (.bool (decide (a≠b))) w:=by
 have h:(a !=b)=decide (a≠b):=by rw [Bool.eq_iff_iff];simp
 unfold Do;simp [execOp,f,A,eqGuard,binOp,Op.intCmp,h]

theorem sK (f:ev ρ x= .int k a)(h:ev ρ y= .int k b)(A:bits .and k a b=c):Do P ⟨d,.binOp .and t x y u,ty,pos,af,g⟩ ρ w (.int k c) w:=by
 unfold Do;simp [execOp,f,h,eqGuard,binOp,intBits_and,A]
theorem aXt (f:ev ρ x= .int k a)(h:ev ρ y= .int k b)(A:bits .or k a b=c):Do P ⟨d,.binOp .or t x y u,ty,pos,af,g⟩ ρ w (.int k c) w:=by
 unfold Do;simp [execOp,f,h,eqGuard,binOp,intBits_or,A]
theorem aOg (f:ev ρ x= .int k a)(h:ev ρ y= .int k b)(A:bits .xor k a b=c):Do P ⟨d,.binOp .xor t x y u,ty,pos,af,g⟩ ρ w (.int k c) w:=by
 unfold Do;simp [execOp,f,h,eqGuard,binOp,intBits_xor,A]
theorem Do_shr (f:ev ρ x= .int k a)(h:ev ρ y= .int k' b)(A:0<=b)(B:b<=k.bits)(hm:(2:Int)^b.toNat=m):Do P ⟨d,.binOp .shr t x y u,ty,pos,af,g⟩ ρ w (.int k (a/m)) w:=by
 unfold Do;simp [execOp,f,h,eqGuard,binOp,shift_shr k k' a b A B,hm]
theorem Do_shl (f:ev ρ x= .int k a)(h:ev ρ y= .int k' b)(A:0<=b)(B:b<=k.bits)(hm:(2:Int)^b.toNat=m)(C:k.wrap (a*m)=c):Do P ⟨d,.binOp .shl t x y u,ty,pos,af,g⟩ ρ w (.int k c) w:=by
 unfold Do;simp [execOp,f,h,eqGuard,binOp,shift_shl k k' a b A B,hm,C]
theorem pU (f:ev ρ x= .bool p):Do P ⟨d,.unOp .not t x,ty,pos,af,g⟩ ρ w (.bool (!p)) w:=by
 unfold Do;simp [execOp,f,Op.unary]
theorem Do_neg (f:ev ρ x= .int k a)(h:k.wrap (-a)=c):Do P ⟨d,.unOp .neg t x,ty,pos,af,g⟩ ρ w (.int k c) w:=by
 unfold Do;simp [execOp,f,Op.unary,Op.intArith,h]
theorem dG {f:TypeDesc}(h:P.underlying t=some f)(hd:P.underlying u=some (.int k'))(A:ev ρ x= .int k a)(B:k'.wrap a=c):Do P ⟨d,.convert t u x,ty,pos,af,g⟩ ρ w (.int k' c) w:=by
 unfold Do;simp [execOp,A,convert,run_underlying h,run_underlying hd,Conv.intToInt,B]
theorem aHz (f:P.underlying t=some .bool)(h:ev ρ x= .bool p)(A:ev ρ y= .bool q):Do P ⟨d,.binOp .neq t x y u,ty,pos,af,g⟩ ρ w (.bool (!(p==q))) w:=by
 unfold Do;simp [execOp,h,A,eqGuard,run_neq_bool w t p q f]
theorem xU {ad:Addr}(f:ev ρ x= .pointer (some ad)):Do P ⟨d,.nilCheck x,ty,pos,af,g⟩ ρ w (.pointer (some ad)) w:=by
 unfold Do;simp [execOp,f]
theorem yC {vs:Array Value}{i:Nat}(f:ev ρ x= .tuple vs)(hi:vs[i]? =some v):Do P ⟨d,.extract x i,ty,pos,af,g⟩ ρ w v w:=by
 unfold Do;simp [execOp,f,Instr.extract,hi]
end ops

structure Only (S:List Nat)(w w':World):Prop where
 os:w'.os=w.os
 tape:w'.tape=w.tape
 output:w'.output=w.output
 size:w.heap.size<=w'.heap.size
 block: ∀k,k<w.heap.size->k∉S->w'.heap[k]? =w.heap[k]?

theorem Only.refl (S:List Nat)(w:World):Only S w w:=⟨rfl,rfl,rfl,Nat.le_refl _,λ_ _ _=>rfl⟩
theorem Only.trans {S:List Nat}{a b c:World}(h:Only S a b)(k:Only S b c):Only S a c:=
 ⟨k.os.trans h.os,k.tape.trans h.tape,k.output.trans h.output,Nat.le_trans h.size k.size,λi hi f=>(k.block i (Nat.lt_of_lt_of_le hi h.size) f).trans (h.block i hi f)⟩
theorem Only.mono {S f:List Nat}{a b:World}(h:Only S a b)(A: ∀i∈S,i∈f):Only f a b:=
 ⟨h.os,h.tape,h.output,h.size,λi hi B=>h.block i hi (λhm=>B (A i hm))⟩
theorem Only.step {S f:List Nat}{a b c:World}(h:Only S a b)(k:Only f b c)(B: ∀i∈f,a.heap.size<=i\/i∈S):Only S a c:=
 ⟨k.os.trans h.os,k.tape.trans h.tape,k.output.trans h.output,Nat.le_trans h.size k.size,λi hi A=>
  (k.block i (Nat.lt_of_lt_of_le hi h.size) (λhm=>(B i hm).elim (λh=>by omega) A)).trans (h.block i hi A)⟩
theorem Only.below {w w':World}(h:Only [] w w'):Below w.heap.size w w':=⟨h.os,h.tape,h.output,h.size,λk f=>h.block k f (by simp)⟩
theorem Only.of_below {w w':World}(h:Below w.heap.size w w'):Only [] w w':=⟨h.os,h.tape,h.output,h.size,λk f _=>h.block k f⟩

def Blk (w:World)(b:Nat)(cs:List Value)(T:TypeId):Prop:=w.heap[b]? =some (.cells cs.toArray T (0,0))

theorem Blk.lt {w:World}{b:Nat}{cs:List Value}{T:TypeId}(h:Blk w b cs T):b<w.heap.size:=(Array.getElem?_eq_some_iff.1 h).1
theorem Blk.cell {w:World}{b:Nat}{cs:List Value}{T:TypeId}(h:Blk w b cs T){i:Nat}{v:Value}(hi:cs[i]? =some v):w.cell? ⟨b,i,none⟩=some v:=by
 rw [cell_of_row w b i cs.toArray T (0,0) h];simpa using hi
theorem Blk.frozen {w:World}{b:Nat}{cs:List Value}{T:TypeId}(h:Blk w b cs T)(i:Nat):w.frozen? ⟨b,i,none⟩=false:=frozen_of_row w b i cs.toArray T h
theorem Blk.only {S:List Nat}{w w':World}{b:Nat}{cs:List Value}{T:TypeId}(h:Blk w b cs T)(f:Only S w w')(A:b∉S):Blk w' b cs T:=by
 have B:=h.lt;unfold Blk at *;rw [f.block b B A];exact h
theorem Blk.Z {w w':World}{b:Nat}{cs:List Value}{T:TypeId}(h:Blk w b cs T)(f:fJ w w'):Blk w' b cs T:=by
 have A:=h.lt;unfold Blk at *;rw [f.block b A];exact h
theorem Blk.below {B:Nat}{w w':World}{b:Nat}{cs:List Value}{T:TypeId}(h:Blk w b cs T)(f:Below B w w')(A:b<B):Blk w' b cs T:=by
 unfold Blk at *;rw [f.block b A];exact h

def Cells (w:World)(a:Addr)(cs:List Value):Prop:= ∀i v,cs[i]? =some v->w.cell? (a.add i)=some v

theorem Addr.add_none (b o i:Nat):(⟨b,o,none⟩:Addr).add i=⟨b,o+i,none⟩:=by unfold Addr.add;split<;>simp_all
theorem Addr.add_block (a:Addr)(i:Nat):(a.add i).block=a.block:=by unfold Addr.add;split<;>rfl
theorem Cells.only {S:List Nat}{w w':World}{a:Addr}{cs:List Value}(h:Cells w a cs)(B:Only S w w')(C:a.block∉S):Cells w' a cs:=by
 intro i v D;have A:=h i v D;have f:(a.add i).block<w.heap.size:=World.block_lt_of_cell? _ _ A;rw [World.cell?_of_block (w:=w) (B.block _ f (by rw [Addr.add_block];exact C))];exact A
theorem Cells.Z {w w':World}{a:Addr}{cs:List Value}(h:Cells w a cs)(f:fJ w w'):Cells w' a cs:=h.only (Only.of_below f) (by simp)
theorem Cells.get {w:World}{b o:Nat}{cs:List Value}(h:Cells w ⟨b,o,none⟩ cs){i:Nat}{v:Value}(hi:cs[i]? =some v):w.cell? ⟨b,o+i,none⟩=some v:=by
 rw [<-Addr.add_none];exact h i v hi
theorem Blk.cells {w:World}{b:Nat}{cs:List Value}{T:TypeId}(h:Blk w b cs T):Cells w ⟨b,0,none⟩ cs:=by
 intro i v f;rw [Addr.add_none];simpa using h.cell f
theorem Cells.drop {w:World}{b o:Nat}{cs:List Value}(h:Cells w ⟨b,o,none⟩ cs)(n m:Nat):Cells w ⟨b,o+n,none⟩ ((cs.drop n).take m):=by
 intro i v f;rw [Addr.add_none,Nat.add_assoc];refine h.get ?_;rw [List.getElem?_take]at f;split at f;rwa [List.getElem?_drop]at f;cases f

def Sz (P:Program)(t:TypeId)(n:Nat):Prop:=(P.info? t).map (·.size)=some n
def aAo (P:Program)(t:TypeId):Prop:=(P.underlying t).map (λd=>match d with | .struct _| .array _ _=>false|_=>true)=some true
def Agg (P:Program)(t:TypeId):Prop:=(P.underlying t).map (λd=>match d with | .struct _| .array _ _=>true|_=>false)=some true
def Zero (P:Program)(t:TypeId)(cs:List Value):Prop:=((P.info? t).bind (·.zero)).map (·.cells.toList)=some cs

theorem bC {P:Program}{t:TypeId}{n:Nat}(h:Sz P t n)(w:World):(sizeOf t).run P w= .ok n w:=by
 unfold Sz at h
 cases hi:P.info? t with
 |none=>rw [hi]at h;cases h
 |some i=>rw [hi]at h;simp at h;simp [sizeOf,typeInfo,hi,h]
theorem wL {P:Program}{t:TypeId}(h:aAo P t)(w:World):(isAgg t).run P w= .ok false w:=by
 unfold aAo at h
 cases hu:P.underlying t with
 |none=>rw [hu]at h;cases h
 |some d=>rw [hu]at h;cases d<;>simp at h<;>simp [isAgg,run_underlying hu]
theorem aCx {P:Program}{t:TypeId}(h:Agg P t)(w:World):(isAgg t).run P w= .ok true w:=by
 unfold Agg at h
 cases hu:P.underlying t with
 |none=>rw [hu]at h;cases h
 |some d=>rw [hu]at h;cases d<;>simp at h<;>simp [isAgg,run_underlying hu]

theorem aHs {P:Program}{t:TypeId}{a:Addr}{v:Value}{w:World}(f:aAo P t)(h:w.cell? a=some v):(loadVar t a).run P w= .ok v w:=by
 have A:(load a .plain).run P w= .ok v w:=by simp [load,Sem.run,h]
 simp only [loadVar,Sem.run_bind,wL f,Result.andThen];exact A
theorem zV {P:Program}{t:TypeId}{n:Nat}{a:Addr}{cs:List Value}{w:World}(h:Agg P t)(A:Sz P t n)(f:cs.length=n)(B:Cells w a cs):(loadVar t a).run P w= .ok (.agg cs.toArray) w:=by
 subst f;have f:=run_loadCells_list (P:=P) w a cs B;simp [loadVar,Sem.run_bind,aCx h,bC A,f]

structure Wr (w w':World)(b:Nat)(cs:List Value)(T:TypeId):Prop where
 blk:Blk w' b cs T
 only:Only [b] w w'
 size:w'.heap.size=w.heap.size
structure Al (w w':World)(b:Nat)(cs:List Value)(T:TypeId):Prop where
 at_:b=w.heap.size
 blk:Blk w' b cs T
 only:Only [] w w'
 size:w'.heap.size=w.heap.size+1

theorem Al.mk' (w:World)(cs:List Value)(T:TypeId):Al w (w.alloc (.cells cs.toArray T)) w.heap.size cs T:=
 ⟨rfl,heap_alloc_new w _,⟨rfl,rfl,rfl,by simp,λk f _=>Below.heap_alloc w _ k f⟩,by simp⟩
theorem Wr.setRow {w:World}{b:Nat}{cs:List Value}{T:TypeId}(h:Blk w b cs T)(cs':List Value):Wr w (w.setRow b cs'.toArray) b cs' T:=
 ⟨setRow_heap w b _ _ T (0,0) h,⟨rfl,rfl,rfl,by simp,λk _ f=>setRow_other w b k _ (λe=>f (by simp [e]))⟩,by simp⟩

section mem
variable {P:Program}{N:Nat}{ops:Array Oper}{Q:Exit->Env->World->Prop}{rest:List Oper}{ρ:Env}{w:World}{d:Nat}{do_:Option Tmp}{x y z:Operand}{t u ty:TypeId}{pos:String}{af:Array Edge}{g:Option (Nat×Bool)}
variable {v:Value}{b i:Nat}{cs:List Value}{T:TypeId}

theorem yH {a:Addr}(f:aAo P t)(h:ev ρ x= .pointer (some a))(A:w.cell? a=some v):Do P ⟨do_,.load t x,ty,pos,af,g⟩ ρ w v w:=by
 unfold Do;simp [execOp,h,Instr.loadAt,Instr.sureAddr,aHs f A]
theorem zW {a:Addr}{n:Nat}(f:Agg P t)(h:ev ρ x= .pointer (some a))(A:Sz P t n)(B:cs.length=n)(C:Cells w a cs):Do P ⟨do_,.load t x,ty,pos,af,g⟩ ρ w (.agg cs.toArray) w:=by
 unfold Do;simp [execOp,h,Instr.loadAt,Instr.sureAddr,zV f A B C]

end mem

def SlR (w:World)(v:Value)(s n:Nat)(xs:List Value):Prop:=
 xs.length=n*s/\((v= .slice none 0 0/\n=0)\/ ∃a cap,v= .slice (some a) n cap/\n<=cap/\cap<=maxLen/\(0<n->a.spot=none)/\Cells w a xs)

def qG:Value->Option Nat
 | .slice (some a) _ _=>some a.block
 |_=>none

theorem SlR.only {S:List Nat}{w w':World}{v:Value}{s n:Nat}{xs:List Value} (h:SlR w v s n xs) (B:Only S w w') (C:0<n-> ∀b,qG v=some b->b∉S):SlR w' v s n xs:=by
 obtain⟨A,h⟩:=h;refine⟨A,?_⟩;rcases h with h|⟨a,cap,rfl,D,E,F,G⟩
 ·exact .inl h
 ·refine .inr ⟨a,cap,rfl,D,E,F,?_⟩;rcases Nat.eq_zero_or_pos n with f|f
  ·subst f;have:xs=[]:=List.eq_nil_of_length_eq_zero (by simpa using A);subst this;intro i v H;simp at H
  ·exact G.only B (C f a.block rfl)
theorem SlR.lt {w:World}{v:Value}{n:Nat}{xs:List Value} (h:SlR w v 1 n xs) (C:0<n): ∀b,qG v=some b->b<w.heap.size:=by
 intro b f;obtain⟨_,h⟩:=h;rcases h with ⟨rfl,_⟩|⟨a,_,rfl,_,_,_,A⟩
 ·cases f
 ·cases f
  have B:0<xs.length:=by omega
  have:=World.block_lt_of_cell? _ _ (A 0 xs[0] (by simp [B]));rwa [Addr.add_block]at this
theorem SlR.below {w w':World}{v:Value}{s n:Nat}{xs:List Value}(h:SlR w v s n xs)(f:Below w.heap.size w w'):SlR w' v s n xs:=h.only (Only.of_below f) (by simp)
theorem SlR.Z {w w':World}{v:Value}{s n:Nat}{xs:List Value}(h:SlR w v s n xs)(f:fJ w w'):SlR w' v s n xs:=h.below f
theorem SlR.nil {w:World}{s:Nat}:SlR w (.slice none 0 0) s 0 []:=⟨by simp,.inl ⟨rfl,rfl⟩⟩
theorem SlR.shape {w:World}{v:Value}{s n:Nat}{xs:List Value}(h:SlR w v s n xs): ∃a c,v= .slice a n c:=by
 rcases h.2 with ⟨h,f⟩|⟨a,_,h,_⟩
 ·exact⟨none,0,by rw [h,f]⟩
 ·exact⟨_,_,h⟩
theorem SlR.some {w:World}{v:Value}{s n:Nat}{xs:List Value} (h:SlR w v s n xs) (A:0<n): ∃b o cap,v= .slice (some ⟨b,o,none⟩) n cap/\n<=cap/\cap<=maxLen/\Cells w ⟨b,o,none⟩ xs:=by
 rcases h.2 with ⟨_,h⟩|⟨⟨b,o,B⟩,cap,h,C,D,f,E⟩
 ·omega
 ·have f:B=none:=f A;subst f;exact⟨b,o,cap,h,C,D,E⟩
theorem maxLen_eq:maxLen=9223372036854775807:=by decide

def Enters (P:Program)(f:FuncId):Prop:= ∃fn,P.funcs[f]? =some fn/\fn.body.isSome=true/\(fn.name== "runtime.NumGoroutine")=false

section ops
variable {P:Program}{N:Nat}{ops:Array Oper}{Q:Exit->Env->World->Prop}{rest:List Oper}{ρ:Env}{w:World}{d:Option Tmp}{x y z:Operand}{t u ty e:TypeId}{pos:String}{af:Array Edge}{g:Option (Nat×Bool)}
variable {v:Value}{b o i j m n c s:Nat}{k k':IntKind}{q:Int}{cs xs:List Value}{T:TypeId}

theorem yR {f:FuncId}{args:Array Operand}{h:Array TypeId}{vs:List Value}(D:Enters P f)(E:args.toList.map (ev ρ)=vs):
  DoC P ⟨d,.call {callee:= .value (.func f),args:=args,argTypes:=h},ty,pos,af,g⟩ ρ w f vs.toArray:=by
 obtain⟨fn,F,_,G⟩:=D;have A: ¬fn.body=none:=by cases hb:fn.body<;>simp_all
 have B: ¬fn.name= "runtime.NumGoroutine" :=by simpa using G
 have C:(callFunc f (args.map (ev ρ))).run P w= .ok (.enter f (args.map (ev ρ))) w:=by
  simp [callFunc,Sem.run,F,A,B,program]
 unfold DoC;have e:args.map (ev ρ)=vs.toArray:=by rw [<-E];apply Array.ext';simp
 simp only [execOp,resolve,ev,Deferred.ofValue];rw [e]at C⊢;simp [invoke,C]

theorem dM (f:P.underlying t=some (.slice e)){a:Option Addr}(h:ev ρ x= .slice a n c):
    Do P ⟨d,.call {callee:= .builtin .len,args:= #[x],argTypes:= #[t]},ty,pos,af,g⟩ ρ w (.int .i64 n) w:=by
 unfold Do;simp [execOp,resolve,invoke,builtin,Builtin.len_,h,run_underlying f,goInt]
theorem Do_lens (f:P.underlying t=some .string){str:ByteArray}(h:ev ρ x= .string str):
    Do P ⟨d,.call {callee:= .builtin .len,args:= #[x],argTypes:= #[t]},ty,pos,af,g⟩ ρ w (.int .i64 str.size) w:=by
 unfold Do;simp [execOp,resolve,invoke,builtin,Builtin.len_,h,run_underlying f,goInt]

theorem xG (f:P.underlying t=some (.slice e))(h:Sz P e s)(A:ev ρ x= .slice (some ⟨b,o,none⟩) n c)(B:ev ρ y= .int k q)(C:0<=q)(D:q<n)(E:q.toNat=j)(hm:o+j*s=m):
    Do P ⟨d,.indexAddr t x y,ty,pos,af,g⟩ ρ w (.pointer (some ⟨b,m,none⟩)) w:=by
 unfold Do;simp [execOp,Instr.indexAt,A,B,asIntOf,run_underlying f,C,D,bC h,E,Addr.add_none,hm]
theorem Do_idxa (f:P.underlying t=some (.array n e))(h:Sz P e s)(A:ev ρ x= .pointer (some ⟨b,o,none⟩))(B:ev ρ y= .int k q)(C:0<=q)(D:q<n)(E:q.toNat=j)(hm:o+j*s=m):
    Do P ⟨d,.indexAddr t x y,ty,pos,af,g⟩ ρ w (.pointer (some ⟨b,m,none⟩)) w:=by
 unfold Do;simp [execOp,Instr.indexAt,Instr.sureAddr,A,B,asIntOf,run_underlying f,C,D,bC h,E,Addr.add_none,hm]
theorem aSk {kl kh:IntKind}{l h:Int}{lo hi:Operand}{a:Option Addr}(A:P.underlying t=some (.slice e))(C:Sz P e s)(D:ev ρ x= .slice a n c)(E:ev ρ lo= .int kl l)(hh:ev ρ hi= .int kh h)
    (F:0<=l)(G:l<=h)(H:h<=c):Do P ⟨d,.slice t x (some lo) (some hi) none,ty,pos,af,g⟩ ρ w (sliced a l.toNat h.toNat c s) w:=by
 have B:P.elem t=e:=by simp [Program.elem,A]
 have f:P.underlying t=some (.slice (P.elem t)):=by rw [B];exact A
 unfold Do;simp [execOp,D,E,hh,run_sliceAt_slice w t _ _ _ _ f,run_slice_lh w t a n c f kl kh l h F G H,B,bC C]
theorem aUk {kl:IntKind}{l:Int}{lo:Operand}{a:Option Addr}(h:P.underlying t=some (.slice e))(B:Sz P e s)(C:ev ρ x= .slice a n c)(D:ev ρ lo= .int kl l)
    (E:0<=l)(F:l<=n):Do P ⟨d,.slice t x (some lo) none none,ty,pos,af,g⟩ ρ w (sliced a l.toNat n c s) w:=by
 have A:P.elem t=e:=by simp [Program.elem,h]
 have f:P.underlying t=some (.slice (P.elem t)):=by rw [A];exact h
 unfold Do;simp [execOp,C,D,run_sliceAt_slice w t _ _ _ _ f,run_slice_l w t a n c f kl l E F,A,bC B]
theorem aTg {kh:IntKind}{h:Int}{hi:Operand}{a:Option Addr}(A:P.underlying t=some (.slice e))(C:Sz P e s)(D:ev ρ x= .slice a n c)(hh:ev ρ hi= .int kh h)
    (E:0<=h)(F:h<=c):Do P ⟨d,.slice t x none (some hi) none,ty,pos,af,g⟩ ρ w (sliced a 0 h.toNat c s) w:=by
 have B:P.elem t=e:=by simp [Program.elem,A]
 have f:P.underlying t=some (.slice (P.elem t)):=by rw [B];exact A
 unfold Do;simp [execOp,D,hh,run_sliceAt_slice w t _ _ _ _ f,run_slice_h w t a n c f kh h E F,B,bC C]
theorem Do_slicea (f:P.underlying t=some (.array n e))(C:Sz P e s)(D:ev ρ x= .pointer (some ⟨b,o,none⟩)):
    Do P ⟨d,.slice t x none none none,ty,pos,af,g⟩ ρ w (.slice (some ⟨b,o,none⟩) n n) w:=by
 have A:P.elem t=e:=by simp [Program.elem,f]
 have B:P.arrayLen t=n:=by simp [Program.arrayLen,f]
 have h:P.underlying t=some (.array (P.arrayLen t) (P.elem t)):=by rw [A,B];exact f
 unfold Do;simp [execOp,D,run_sliceAt_array_all w t ⟨b,o,none⟩ h,A,B,bC C,slicedAt,Addr.add_none]
end ops


theorem aCp (n:Int)(h:0<=n)(f:n<2^62):IntKind.i64.wrap n=n:=wrap_i64 (by omega) (by omega)
theorem wrapn_u16 (n:Int)(h:0<=n)(f:n<2^16):IntKind.u16.wrap n=n:=wrap_u16 (by omega) (by omega)
theorem wrapn_u64 (n:Int)(h:0<=n)(f:n<2^64):IntKind.u64.wrap n=n:=wrap_u64 (by omega) (by omega)

theorem aEa {a m c:Int}(i:Nat)(hi:i<=62)(hm:(2:Int)^i=m)(f:0<=a)(h:a<4611686018427387904)(A:c+1=m:=by rfl):bits .and .i64 a c=a%m:=by
 have:c=2^i-1:=by omega
 rw [this,<-hm];exact bits_mask .i64 62 (by decide) aCp i hi a f (by simpa using h)
theorem aFj {a m c:Int}(i:Nat)(hi:i<=16)(hm:(2:Int)^i=m)(f:0<=a)(h:a<65536)(A:c+1=m:=by rfl):bits .and .u16 a c=a%m:=by
 have:c=2^i-1:=by omega
 rw [this,<-hm];exact bits_mask .u16 16 (by decide) wrapn_u16 i hi a f (by simpa using h)
theorem aKg {a b m:Int}(i:Nat)(hm:(2:Int)^i=m)(f:0<=a)(h:a<4611686018427387904)(hd:a%m=0)(A:0<=b)(B:b<m)(C:b<4611686018427387904):bits .or .i64 a b=a+b:=by
 subst hm;exact bits_join .i64 62 (by decide) aCp i a b f hd (by simpa using h) A B (by simpa using C)
theorem or_comm {k:IntKind}{a b:Int}:bits .or k a b=bits .or k b a:=by unfold bits;simp [BitVec.or_comm]

theorem xor_nat (k:IntKind)(j:Nat)(E:j<=k.bits)(F: ∀n:Int,0<=n->n<2^j->k.wrap n=n)(a b:Nat)(B:a<2^j)(C:b<2^j):
    bits .xor k a b=((a^^^b:Nat):Int):=by
 have D:2^j<=2^k.bits:=Nat.pow_le_pow_right (by decide) E;have f:a%2^k.bits=a:=Nat.mod_eq_of_lt (Nat.lt_of_lt_of_le B D);have A:b%2^k.bits=b:=Nat.mod_eq_of_lt (Nat.lt_of_lt_of_le C D);have cast: ∀n:Nat,n<2^j->((n:Nat):Int)<2^j:=λn h=>by exact_mod_cast h
 simp only [bits,BitVec.ofInt_natCast,BitVec.toNat_xor,BitVec.toNat_ofNat,f,A];exact F _ (Int.natCast_nonneg _) (cast _ (Nat.xor_lt_two_pow B C))
theorem aPs (a b:Nat)(f:a<4611686018427387904)(h:b<4611686018427387904):bits .xor .i64 a b=((a^^^b:Nat):Int):=
 xor_nat .i64 62 (by decide) aCp a b (by simpa using f) (by simpa using h)
theorem aSx {x y:Int}(a b:Nat)(f:x=a)(h:y=b)(A:a<4611686018427387904)(B:b<4611686018427387904):bits .xor .i64 x y=((a^^^b:Nat):Int):=by subst f h;exact aPs a b A B
theorem yI {P:Program}{o:Oper}{ρ:Env}{w w':World}{v f:Value}(h:Do P o ρ w v w')(e:v=f):Do P o ρ w f w':=e▸h
theorem and_top {n:Nat}(h:n<4194304):bits .and .i64 (n:Int) 2097152=if 2097152<=n then 2097152 else 0:=by
 have A:=(bits_nat .i64 62 (by decide) aCp n 2097152 (by omega) (by decide)).1;have f:n&&& 2^21=n/2^21%2*2^21:=nat_bit 21 n;simp only [Nat.reducePow]at f;rw [show((2097152:Int))=((2097152:Nat):Int)from rfl,A,f];split<;>omega
end Go.OB
