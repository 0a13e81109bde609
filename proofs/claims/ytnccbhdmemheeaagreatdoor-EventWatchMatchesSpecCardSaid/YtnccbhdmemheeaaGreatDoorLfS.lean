/- Laws that the claim stands on; no condition beyond those stated. -/
import Derived.Test.YtnccbhdmemheeaaGreatDoorLfR
import Derived.Defers
import Derived.Recover
import Derived.MapKept
namespace Go.Lf
open Go.RowKit Go.OB
structure aAp (N:Nat)(a:Act)(ρ:Env)(ds:List Deferred):Prop where
 size:a.tmps.size=N
 dfr:a.defers=ds
 get: ∀i,a.tmps.getD i undef=ρ i
theorem aAp.fits {N:Nat}{a:Act}{ρ:Env}{ds:List Deferred}(h:aAp N a ρ ds):Fits N {a with defers:=[]} ρ:=⟨h.size,rfl,h.get⟩
theorem aAp.eval {N:Nat}{a:Act}{ρ:Env}{ds:List Deferred}(h:aAp N a ρ ds):a.eval=ev ρ:=by
 have:=h.fits.eval;rw [<-this];funext x;cases x<;>rfl
theorem aAp.wanted {N:Nat}{a:Act}{ρ:Env}{ds:List Deferred}(h:aAp N a ρ ds)(ops:Array Oper)(o:Oper):Region.wanted o (yielded ops a.tmps)=fU N ops ρ o:=h.fits.wanted ops o
theorem aAp.put {N:Nat}{a:Act}{ρ:Env}{ds:List Deferred}(h:aAp N a ρ ds){d:Option Tmp}(hd:aVp N d=true)(v:Value):aAp N (a.put d v) (updo ρ d v) ds:=by
 have q:=h.fits.put hd v
 cases d with
 |none=>exact h
 |some d=>exact⟨q.size,h.dfr,q.get⟩
def liftD (N:Nat)(Q:Exit->List Deferred->Env->World->Prop):Exit->Act->World->Prop:=λe a w=> ∃ρ ds,aAp N a ρ ds/\Q e ds ρ w
def WPD (P:Program)(N:Nat)(ds:List Deferred)(c:Code)(Q:Exit->List Deferred->Env->World->Prop)(ρ:Env)(w:World):Prop:= ∀a,aAp N a ρ ds->c.wp P (liftD N Q) a w
def RLD (P:Program)(N:Nat)(ops:Array Oper)(ds:List Deferred)(Q:Exit->List Deferred->Env->World->Prop)(l:List Oper)(ρ:Env)(w:World):Prop:= ∀a,aAp N a ρ ds->wpList P ops (liftD N Q) l a w
def thenD (K:List Deferred->Env->World->Prop)(Q:Exit->List Deferred->Env->World->Prop):Exit->List Deferred->Env->World->Prop
 | .normal,ds,ρ,w=>K ds ρ w
 |e,ds,ρ,w=>Q e ds ρ w
section
variable {P:Program}{N:Nat}{Q:Exit->List Deferred->Env->World->Prop}{ρ:Env}{w w':World}{ds:List Deferred}{ops:Array Oper}{o:Oper}{rest:List Oper}{v:Value}{d:Nat}{op:Op}{ty:TypeId}{pos:String}{af:Array Edge}{g:Option (Nat×Bool)}
theorem aJc {x y:Code}(h:WPD P N ds x (thenD (λf p w'=>WPD P N f y Q p w') Q) ρ w):WPD P N ds (.seq x y) Q ρ w:=by
 intro a C;refine wp_seq (wp_mono (h a C) ?_);rintro e a' w' ⟨p,f,A,B⟩
 cases e<;>first |exact B a' A|exact⟨p,f,A,B⟩
theorem WPD_ret (h:Q .ret ds ρ w):WPD P N ds .ret Q ρ w:=λ_ f=>wp_ret ⟨ρ,ds,f,h⟩
theorem aBm {id:Nat}{l:List Oper}(h:RLD P N l.toArray ds Q l ρ w):WPD P N ds (.region id l.toArray false) Q ρ w:=λa f=>wp_region_lit (h a f)
theorem aJt (h:Q .normal ds ρ w):RLD P N ops ds Q [] ρ w:=λ_ f=>wpList_nil ⟨ρ,ds,f,h⟩
theorem aSd (p:fU N ops ρ ⟨some d,op,ty,pos,af,g⟩=true)(hd:Nat.blt d N=true)(h:Do P ⟨some d,op,ty,pos,af,g⟩ ρ w v w')(k:RLD P N ops ds Q rest (upd ρ d v) w'):RLD P N ops ds Q (⟨some d,op,ty,pos,af,g⟩::rest) ρ w:=by
 intro a f;unfold wpList;rw [f.wanted,p,if_pos rfl];refine .inl ?_;unfold Oper.wp;rw [f.eval,show(execOp (ev ρ) _).run P w=_ from h];exact k _ (f.put (dQ hd) v)
theorem RLD_ex {R:Value->World->Prop}(f:fU N ops ρ ⟨some d,op,ty,pos,af,g⟩=true)(hd:Nat.blt d N=true)(h: ∃v w',Do P ⟨some d,op,ty,pos,af,g⟩ ρ w v w'/\R v w')
    (k: ∀v w',R v w'->RLD P N ops ds Q rest (upd ρ d v) w'):RLD P N ops ds Q (⟨some d,op,ty,pos,af,g⟩::rest) ρ w:=by
 obtain⟨v,w',p,A⟩:=h;exact aSd f hd p (k v w' A)
theorem RLD_exU {R:World->Prop}(p:fU N ops ρ ⟨none,op,ty,pos,af,g⟩=true)(h: ∃w',DoU P ⟨none,op,ty,pos,af,g⟩ ρ w w'/\R w')(k: ∀w',R w'->RLD P N ops ds Q rest ρ w'):RLD P N ops ds Q (⟨none,op,ty,pos,af,g⟩::rest) ρ w:=by
 obtain⟨w',A,B⟩:=h;intro a f;unfold wpList;rw [f.wanted,p,if_pos rfl];refine .inl ?_;unfold Oper.wp;rw [f.eval,show(execOp (ev ρ) _).run P w=_ from A];exact k _ B _ f
theorem RLD_defer {x:Deferred}(p:fU N ops ρ ⟨none,op,ty,pos,af,g⟩=true)(h:(execOp (ev ρ) ⟨none,op,ty,pos,af,g⟩).run P w= .ok (.defer x) w)(k:RLD P N ops (x::ds) Q rest ρ w):RLD P N ops ds Q (⟨none,op,ty,pos,af,g⟩::rest) ρ w:=by
 intro a f;unfold wpList;rw [f.wanted,p,if_pos rfl];refine .inl ?_;unfold Oper.wp;rw [f.eval,h];exact k _ ⟨f.size,congrArg (x:: ·) f.dfr,f.get⟩
theorem RLD_call {f:FuncId}{args:Array Value}{R:Ending->World->Prop}(B:fU N ops ρ ⟨some d,op,ty,pos,af,g⟩=true)(hd:Nat.blt d N=true)(h:DoC P ⟨some d,op,ty,pos,af,g⟩ ρ w f args)
    (C:Calls P f args w R)(k: ∀e w',R e w'-> ∃v,e= .returned v/\RLD P N ops ds Q rest (upd ρ d v) w'):RLD P N ops ds Q (⟨some d,op,ty,pos,af,g⟩::rest) ρ w:=by
 intro a p;unfold wpList;rw [p.wanted,B,if_pos rfl];refine .inl ?_;unfold Oper.wp;rw [p.eval,show(execOp (ev ρ) _).run P w=_ from h];refine C.mono λe A E=>?_;obtain⟨v,rfl,H⟩:=k e A E;exact H _ (p.put (dQ hd) v)
def postD (P:Program)(fn:Func)(R:Ending->World->Prop):Exit->List Deferred->Env->World->Prop
 | .normal,ds,ρ,w| .ret,ds,ρ,w=> ∀f:Array Value,(∀i,f.getD i undef=ρ i)->Leaves P fn f R ds .returning w
 | .panic h,ds,ρ,w=> ∀f:Array Value,(∀i,f.getD i undef=ρ i)->Leaves P fn f R ds (.panicking h) w
 |_,_,_,_=>False
theorem aSp {f:FuncId}{fn:Func}{c:Code}{args:List Value}{R:Ending->World->Prop} (N:Nat)
  (p:P.funcs[f]? =some fn) (E:fn.body=some c) (H:fn.ntmps=N) (C:Nat.ble args.length N=true)
  (h:WPD P N [] c (postD P fn R) (aOe args) w):Calls P f args.toArray w R:=by
 refine calls_of_wp_defers p E ?_;have C:=Nat.le_of_ble_eq_true C;subst H;have A:aAp fn.ntmps {tmps:=args.toArray++Array.replicate (fn.ntmps-args.toArray.size) undef,defers:=[]} (aOe args) []:=by
  refine⟨by simp;omega,rfl,λi=>?_⟩;rw [<-aLz];simp only [Array.getD_eq_getD_getElem?,Array.getElem?_append,List.getD_eq_getElem?_getD,List.size_toArray,Array.getElem?_replicate,List.getElem?_toArray];split
  ·rfl
  ·rename_i _;rw [List.getElem?_eq_none (by omega)];split<;>rfl
 refine wp_mono (h _ A) ?_;rintro e a w ⟨ρ,ds,p,B⟩
 cases e<;>simp only [postD]at B<;>simp only [bodyPostD]
 case normal=>rw [p.dfr];exact B _ p.get
 case ret=>rw [p.dfr];exact B _ p.get
 case panic ch=>rw [p.dfr];exact B _ p.get
theorem aYg {fn:Func}{f:Array Value}{R:Ending->World->Prop}{rs:Array ResultVar}(p:fn.results=rs)(A: ∀i,f.getD i undef=ρ i)(h:aAk P rs R .ret ρ w):Leaves P fn f R [] .returning w:=by
 subst p;obtain⟨v,B,C⟩:=h;refine⟨v,?_,C⟩;rw [<-B];congr 1;unfold results aN;simp only [A];rfl
end
section
variable {P:Program}{ρ:Env}{w:World}{d:Option Tmp}{x:Operand}{ty:TypeId}{pos:String}{af:Array Edge}{g:Option (Nat×Bool)}
theorem DoC_bnd {f:FuncId}{args:Array Operand}{at_:Array TypeId}{us first:List Value}(A:Go.OB.Enters P f)(B:ev ρ x= .func (.func f) first.toArray #[])(C:args.toList.map (ev ρ)=us):
  DoC P ⟨d,.call {callee:= .value x,args:=args,argTypes:=at_},ty,pos,af,g⟩ ρ w f (first++us).toArray:=by
 obtain⟨fn,E,_,H⟩:=A;have h: ¬fn.body=none:=by cases hb:fn.body<;>simp_all
 have p: ¬fn.name= "runtime.NumGoroutine" :=by simpa using H
 have I: ∀as,(callFunc f as).run P w= .ok (.enter f as) w:=by
  intro as;simp [callFunc,Sem.run,E,h,p,program]
 unfold DoC;have e:args.map (ev ρ)=us.toArray:=by rw [<-C];apply Array.ext';simp
 simp only [execOp,resolve,B,Deferred.ofValue];rw [e];simp [invoke,I]
theorem run_defer {f:FuncId}{args:Array Operand}{at_:Array TypeId}{us cap:List Value}(h:ev ρ x= .func (.func f) #[] cap.toArray)(p:args.toList.map (ev ρ)=us):
    (execOp (ev ρ) ⟨d,.defer {callee:= .value x,args:=args,argTypes:=at_},ty,pos,af,g⟩).run P w= .ok (.defer {target:= .fn (.func f) cap.toArray,args:=us.toArray}) w:=by
 have e:args.map (ev ρ)=us.toArray:=by rw [<-p];apply Array.ext';simp
 simp only [execOp,resolve,h,Deferred.ofValue];rw [e];simp
end
section
variable {P:Program}{ρ:Env}{w:World}{R:Ending->World->Prop}{rs:Array ResultVar}{t1 t2 t3 t4 t5 t6:Tmp}{v1 v2 v3 v4 v5 v6:Value}
theorem aDv (f:rs= #[.tmp t1,.tmp t2,.tmp t3,.tmp t4,.tmp t5,.tmp t6])(p:ρ t1=v1)(A:ρ t2=v2)(B:ρ t3=v3)(C:ρ t4=v4)(E:ρ t5=v5)(H:ρ t6=v6)(h:R (.returned (.tuple #[v1,v2,v3,v4,v5,v6])) w):aAk P rs R .ret ρ w:=by
 subst f p A B C E H;exact⟨_,by simp [aN],h⟩
end
section
variable {P:Program}{ops:Array Oper}{a:Act}{w:World}
theorem upon_q {o:Oper}{K K':Act->World->Prop}{Q Q':Exit->Act->World->Prop}(hk: ∀a w,K a w->K' a w)(hq: ∀e a w,e≠ .normal->Q e a w->Q' e a w)(h:o.wp P a w K Q):o.wp P a w K' Q':=by
  unfold Oper.wp Oper.upon at *
  split at h<;>first
    | exact hk _ _ h
    | exact hq _ _ _ (by simp) h
    | exact h.elim
    | (refine Calls.mono h λe w' hr=>?_
       cases e with
       | returned v=>exact hk _ _ hr
       | panicked _=>exact hq _ _ _ (by simp) hr
       | outgrown=>obtain ⟨a0,w0,h0⟩:=hr; exact ⟨a0,w0,hq _ _ _ (by simp) h0⟩)
    | (intro fr cs; obtain ⟨v,w'',hR,hs⟩:=h fr cs; exact ⟨v,w'',hk _ _ hR,hs⟩)
theorem aEt {Q:Exit->Act->World->Prop}: ∀(l:List Oper) (k:Nat) (a:Act) (w:World),wpList P ops (λe a w=>match e with | .normal=>wpList P ops Q (l.drop k) a w|e=>Q e a w) (l.take k) a w->wpList P ops Q l a w
 |l,0,a,w,h=>by simpa [wpList]using h
 | [],k+1,a,w,h=>by simpa [wpList]using h
 |o::l,k+1,a,w,h=>by
  rw [List.take_succ_cons,wpList]at h;rw [wpList];simp only [List.drop_succ_cons]at h;split at h
  ·rename_i f;rw [if_pos f];rcases h with h|⟨p,a0,w0,A⟩
   ·exact .inl (upon_q (λa w h=>aEt l k a w h) (λe a w B h=>by cases e<;>first |exact h|exact absurd rfl B) h)
   ·exact .inr ⟨p,a0,w0,A⟩
  ·rename_i f;rw [if_neg f];exact aEt l k _ _ h
theorem wB {N:Nat}{Q:Exit->Env->World->Prop}{ρ:Env}{l:List Oper} (k:Nat) (W:List Nat) (S:List (Nat×Value)) (I:World->Prop)
  (h:RL P N ops (qA (λf w'=>Fr W ρ f/\Sl f S/\I w') Q) (l.take k) ρ w) (J: ∀p w1,I w1->RL P N ops Q (l.drop k) (over ρ p W S) w1):RL P N ops Q l ρ w:=by
 intro a L;refine aEt l k a w ?_;have mono: ∀(l1:List Oper) (a:Act) (w:World),wpList P ops (aFx N (qA (λf w'=>Fr W ρ f/\Sl f S/\I w') Q)) l1 a w->wpList P ops (λe a w=>match e with | .normal=>wpList P ops (aFx N Q) (l.drop k) a w|e=>aFx N Q e a w) l1 a w:=by
  have A: ∀a w,aFx N (qA (λf w'=>Fr W ρ f/\Sl f S/\I w') Q) .normal a w->wpList P ops (aFx N Q) (l.drop k) a w:=by
   rintro a w ⟨f,M,B,C,X⟩;have q:=J f w X;rw [aRi B C]at q;exact q a M
  intro l1
  induction l1 with
  |nil=>intro a w h;rw [wpList]at h⊢;exact A a w h
  |cons o l1 H=>
   intro a w h;rw [wpList]at h⊢;split at h
   ·rename_i E;rw [if_pos E];rcases h with h|⟨B,a0,w0,C⟩
    ·exact .inl (upon_q H (λe a w Y h=>by cases e<;>first |exact h|exact absurd rfl Y) h)
    ·exact .inr ⟨B,a0,w0,C⟩
   ·rename_i E;rw [if_neg E];exact H _ _ h
 exact mono _ a w (h a L)
end
theorem meet {W:List Nat}{ρ f:Env}{B:Prop}(h:B)(p:Fr W ρ f:=by repeat' (first |with_reducible exact aFf|refine aSj rfl ?_|refine aJv rfl rfl ?_)):Fr W ρ f/\B:=⟨p,h⟩
theorem bBs {α:Type}{a b:α}(h:some a=some b):a=b:=oI h
theorem bJ {P:Program}{o:Oper}{ρ:Env}{w w':World}{b c:Bool}(h:Do P o ρ w (.bool b) w')(e:b=c):Do P o ρ w (.bool c) w':=e▸h
section
variable {P:Program}{N:Nat}{ops:Array Oper}{Q:Exit->Env->World->Prop}{rest:List Oper}{ρ:Env}{w w':World}{v:Value}{d:Nat}{op:Op}{ty:TypeId}{pos:String}{af:Array Edge}{g:Option (Nat×Bool)}
theorem zK (h:Do P ⟨some d,op,ty,pos,af,g⟩ ρ w v w')(k:RL P N ops Q rest (upd ρ d v) w')(f:fU N ops ρ ⟨some d,op,ty,pos,af,g⟩=true:=by exact rfl)(hd:Nat.blt d N=true:=by exact rfl):RL P N ops Q (⟨some d,op,ty,pos,af,g⟩::rest) ρ w:=aQ f hd h k
theorem zS (k:RL P N ops Q rest (upd ρ d undef) w)(f:fU N ops ρ ⟨some d,op,ty,pos,af,g⟩=false:=by exact rfl)(hd:Nat.blt d N=true:=by exact rfl):RL P N ops Q (⟨some d,op,ty,pos,af,g⟩::rest) ρ w:=RL_off f hd k
theorem zB {x:Operand}(v:Value)(k:RL P N ops Q rest (upd ρ d v) w)(h:ev ρ x=v:=by exact rfl)(f:fU N ops ρ ⟨some d,.move x,ty,pos,af,g⟩=true:=by exact rfl)(hd:Nat.blt d N=true:=by exact rfl):RL P N ops Q (⟨some d,.move x,ty,pos,af,g⟩::rest) ρ w:=aQ f hd (mW h) k
theorem zA {x:Operand}(v:Value)(k:RL P N ops Q rest (upd ρ d v) w)(h:ev ρ x=v:=by exact rfl)(f:fU N ops ρ ⟨some d,.assign x,ty,pos,af,g⟩=true:=by exact rfl)(hd:Nat.blt d N=true:=by exact rfl):RL P N ops Q (⟨some d,.assign x,ty,pos,af,g⟩::rest) ρ w:=aQ f hd (yL h) k
end
structure Ky (κ:Type) where
 f:κ->Value
 t:TypeDesc
 key: ∀a,MapKept.IsKey t (f a)
 dec:DecidableEq κ
 now: ∀a b,Instr.sameNow t (f a) (f b)=some (@decide (a=b) (dec a b))
def Ky.str:Ky Str:=⟨λa=> .string (bs a),.string,λ_=>trivial,inferInstance,λa b=>by
 show some (bs a==bs b)=some (decide (a=b))
 have e:(bs a==bs b)=(a.toArray==b.toArray):=rfl
 rw [e]
 congr 1
 rw [Bool.eq_iff_iff,beq_iff_eq,decide_eq_true_eq]
 exact⟨λh=>by simpa using h,λh=>by rw [h]⟩⟩
section
variable {κ ν:Type} (K:Ky κ)
def pY [DecidableEq κ] (l:List (κ×ν))(k:κ)(z:ν):ν:=match l.find? λp=>decide (p.1=k)with
 |some p=>p.2
 |none=>z
def dJ (K:Ky κ)(g:ν->Value)(l:List (κ×ν)):List (Value×Value):=l.map λp=>(K.f p.1,g p.2)
theorem aBg [inst:DecidableEq κ] (g:ν->Value) (k:κ): ∀(A:List MapEntry) (l:List (κ×ν)) (i:Nat),A.map (λe=>(e.key,e.val))=dJ K g l->
  (l.any (λp=>decide (p.1=k))=false->Instr.findNow K.t (K.f k) A i=some none)/\(∀p,l.find? (λp=>decide (p.1=k))=some p-> ∃j,Instr.findNow K.t (K.f k) A i=some (some (j,g p.2)))
 | [],[],i,_=>⟨λ_=>rfl,λp h=>by simp at h⟩
 | [],_::_,i,h=>by simp [dJ]at h
 |_::_,[],i,h=>by simp [dJ]at h
 |e::A,q::l,i,h=>by
  simp only [List.map_cons,dJ,List.cons.injEq,Prod.mk.injEq]at h;obtain⟨⟨I,J⟩,L⟩:=h;have E:=aBg g k A l (i+1) L;have H:=K.now k q.1;have hd:(@decide (k=q.1) (K.dec k q.1))=decide (q.1=k):=by
   by_cases c:q.1=k
   ·simp [c]
   ·have c2: ¬k=q.1:=λh=>c h.symm
    simp [c,c2]
  rw [hd]at H;have M:Instr.findNow K.t (K.f k) (e::A) i=if decide (q.1=k)=true then some (some (i,e.val))else Instr.findNow K.t (K.f k) A (i+1):=by
   rw [Instr.findNow,I,H]
   cases decide (q.1=k)<;>rfl
  rw [M];constructor
  ·intro C;rw [List.any_cons,Bool.or_eq_false_iff]at C;rw [C.1];exact E.1 C.2
  ·intro p B;rw [List.find?_cons]at B
   cases c:decide (q.1=k)with
   |true=>rw [c]at B;obtain rfl:=oI B;exact⟨i,by simp [J]⟩
   |false=>rw [c]at B;obtain⟨j,X⟩:=E.2 p B;exact⟨j,by simpa using X⟩
end
section
variable {P:Program}{ρ:Env}{w w0:World}{d:Option Tmp}{x y z:Operand}{t kt et ty:TypeId}{pos:String}{af:Array Edge}{g:Option (Nat×Bool)}{O S:List Nat}{l:List Th}{i b:Nat}{κ ν:Type}{K:Ky κ}{G:ν->Value}{m m':List (κ×ν)}{k:κ}{v:ν}
theorem aTx (H:Hd O w0 w S l): ∃v w',Do P ⟨d,.makeMap t none,ty,pos,af,g⟩ ρ w v w'/\ ∃b,v= .map (some b)/\Hd O w0 w' S (l++[.mp b []]):=by
 refine⟨.map (some w.heap.size),w.alloc (.map #[] 0),?_,w.heap.size,rfl,?_⟩;unfold Do;simp [execOp,run_makeMap];refine H.add (Only.of_below (MxM.sees_alloc w _)) (λ_=>⟨#[],0,?_,rfl⟩) (λb f=>?_) (by simp [Th.blocks]);show(w.heap.push _)[w.heap.size]? =_;simp;obtain rfl:b=w.heap.size:=by simpa [Th.blocks]using f
 refine⟨Nat.le_refl _,?_⟩;show _<(w.heap.push _).size;simp
theorem aAq [DecidableEq κ] {F:Nat->Prop}{zv:ν}(h:Th.holds F w (.mp b (dJ K G m)))(C:P.underlying t=some (.map kt et))(A:P.underlying kt=some K.t)(L:ev ρ x= .map (some b))(M:ev ρ y=K.f k)(X:(zeroValue et).run P w= .ok (G zv) w):
  Do P ⟨d,.lookup t x y false,ty,pos,af,g⟩ ρ w (G (pY m k zv)) w:=by
 obtain⟨E,c,H,I⟩:=h;unfold Do;have q:(Instr.lookup t (.map (some b)) (K.f k) false).run P w= .ok (G (pY m k zv)) w:=by
  have J: ∀e,(Instr.checkKey e 10000 kt (K.f k)).run P w= .ok () w:=λe=>MapKept.run_checkKey A (K.key k) e 9999
  unfold pY
  cases hf:m.find? λp=>decide (p.1=k)with
  |none=>
   have Y:m.any (λp=>decide (p.1=k))=false:=by
    rw [List.find?_eq_none]at hf;rw [List.any_eq_false];intro p hp;exact hf p hp
   have B:=(aBg K G k E.toList m 0 I).1 Y;simp [Instr.lookup,run_underlying C,MapKept.run_getObj_map H,J,MapKept.run_findKey A B,X,Result.andThen]
  |some p=>
   obtain⟨j,B⟩:=(aBg K G k E.toList m 0 I).2 p hf;simp [Instr.lookup,run_underlying C,MapKept.run_getObj_map H,J,MapKept.run_findKey A B,Result.andThen]
 simp [execOp,L,M,q]
end
section
variable {P:Program}{ρ:Env}{w w0:World}{d:Option Tmp}{x y z:Operand}{t kt et ty u:TypeId}{pos:String}{af:Array Edge}{g:Option (Nat×Bool)}{O S:List Nat}{l:List Th}{i b:Nat}{κ ν:Type}{K:Ky κ}{G:ν->Value}{m m':List (κ×ν)}{k:κ}{v:ν}
def slt (s t:Str):Bool:=Go.Op.bytesLess s t
theorem bs_toList (s:Str):(bs s).toList=s:=by
 rw [ByteArray.toList_eq];simp [bs]
theorem Do_lsss {s1 s2:Str}(f:ev ρ x= .string (bs s1))(h:ev ρ y= .string (bs s2)):Do P ⟨d,.binOp .lss t x y u,ty,pos,af,g⟩ ρ w (.bool (slt s1 s2)) w:=by
 unfold Do slt;simp [execOp,f,h,eqGuard,binOp,Op.stringOp,bs_toList]
end
section own
variable {w w':World}{e s n:Nat}{v:Value}{xs:List Value}
def OwO (w:World)(e:TypeId)(s:Nat)(v:Value)(n:Nat)(xs:List Value):Prop:=
 xs.length=n*s/\((v= .slice none 0 0/\n=0)\/ ∃g o cap f,v= .slice (some ⟨g,o,none⟩) n cap/\Blk w g f e/\n<=cap/\cap<=maxLen/\o+cap*s<=f.length/\(f.drop o).take (n*s)=xs)
theorem OwO.of_owns (h:w.ownsRow 0 e s v n xs):OwO w e s v n xs:=by
 refine⟨h.1,h.2.imp id ?_⟩;rintro⟨g,cap,f,p,_,A,B,C,E,H⟩;refine⟨g,0,cap,f.toList,p,by unfold Blk;simpa using A,B,C,?_,by simpa using H⟩;rw [Nat.zero_add,<-E];simp
theorem OwO.same (h:OwO w e s v n xs)(p: ∀b∈ob v,w'.heap[b]? =w.heap[b]?):OwO w' e s v n xs:=by
 refine⟨h.1,h.2.imp id ?_⟩;rintro⟨g,o,cap,f,rfl,A,B⟩;exact⟨g,o,cap,f,rfl,nG A (p g (by simp [ob,jC])),B⟩
theorem OwO.slr (h:OwO w e s v n xs):SlR w v s n xs:=by
 refine⟨h.1,h.2.imp id ?_⟩;rintro⟨g,o,cap,_,rfl,p,A,B,_,C⟩;exact⟨⟨g,o,none⟩,cap,rfl,A,B,λ_=>rfl,p.part C⟩
theorem OwO.one (h:OwO w e s v n xs):v.oneCell'=true:=SlR.one h.slr
theorem OwO.lt (h:OwO w e s v n xs): ∀b∈ob v,b<w.heap.size:=by
 rcases h.2 with ⟨rfl,_⟩|⟨g,o,_,_,rfl,p,_⟩
 ·simp [ob,jC]
 ·intro b A;obtain rfl:b=g:=by simpa [ob,jC]using A
  exact p.lt
theorem OwO.nil:OwO w e s (.slice none 0 0) 0 []:=⟨by simp,.inl ⟨rfl,rfl⟩⟩
end own
section rt
variable {α β:Type}{F F':Nat->Prop}{w w':World}
def Rt.of (r:Rp α):Rt α:=⟨r.sz,λF w cs bs x=>bs=[]/\r.rd F w cs x,λh=>r.len h.2,λh=>r.one h.2,λf _ h=>⟨h.1,r.mono f h.2⟩⟩
def Rt.pair (a:Rt α)(b:Rt β):Rt (α×β):=
  ⟨a.sz+b.sz,λF w cs bs x=> ∃c d f h,cs=c++d/\bs=f++h/\a.rd F w c f x.1/\b.rd F w d h x.2,
   λ⟨c,d,f,h,e,p,A,B⟩=>by subst e;simp [a.len A,b.len B],
   λ⟨c,d,f,h,e,p,A,B⟩=>by subst e;intro v I;exact(mA.1 I).elim (a.one A v) (b.one B v),
   λE H ⟨c,d,f,h,e,p,A,B⟩=>⟨c,d,f,h,e,p,a.mono E (λx C=>H x (by rw [p];exact List.mem_append_left _ C)) A,b.mono E (λx C=>H x (by rw [p];exact List.mem_append_right _ C)) B⟩⟩
def Rt.iso (a:Rt α)(f:β->α):Rt β:=⟨a.sz,λF w cs bs x=>a.rd F w cs bs (f x),λh=>a.len h,λh=>a.one h,λp A h=>a.mono p A h⟩
def elH (r:Rt α)(F:Nat->Prop)(w:World)(c:List Value)(b:List Nat)(x:α):Option (List Value)->Prop
 |none=>r.rd F w c b x
 |some c0=>c=c0/\b=[]/\c.length=r.sz/\ ∀v∈c,v.oneCell'=true
abbrev Hol:=List (Nat×List Value)
def mX (r:Rt α)(F:Nat->Prop)(w:World)(D:Hol):Nat->List Value->List Nat->List α->Prop
 |_,cs,bs,[]=>cs=[]/\bs=[]
 |i,cs,bs,x::l=> ∃c d f h,cs=c++d/\bs=f++h/\elH r F w c f x (D.lookup i)/\mX r F w D (i+1) d h l
theorem elH.len {r:Rt α}{c:List Value}{b:List Nat}{x:α}{o:Option (List Value)}(h:elH r F w c b x o):c.length=r.sz:=by
 cases o with
 |none=>exact r.len h
 |some c0=>exact h.2.2.1
theorem elH.one {r:Rt α}{c:List Value}{b:List Nat}{x:α}{o:Option (List Value)}(h:elH r F w c b x o): ∀v∈c,v.oneCell'=true:=by
 cases o with
 |none=>exact r.one h
 |some c0=>exact h.2.2.2
theorem elH.mono {r:Rt α}{c:List Value}{b:List Nat}{x:α}{o:Option (List Value)}(f:Same F F' w w')(p: ∀k∈b,w'.heap[k]? =w.heap[k]?)(h:elH r F w c b x o):elH r F' w' c b x o:=by
 cases o with
 |none=>exact r.mono f p h
 |some c0=>exact h
theorem aPt {r:Rt α}{D:Hol}: ∀{l:List α}{i:Nat}{cs:List Value}{bs:List Nat},mX r F w D i cs bs l->cs.length=l.length*r.sz
 | [],_,cs,bs,h=>by rw [h.1];simp
 |x::l,i,cs,bs,h=>by
  obtain⟨c,d,A,B,rfl,rfl,f,p⟩:=h;have:=aPt p;simp [f.len,this,Nat.add_mul];omega
theorem aHc {r:Rt α}{D:Hol}: ∀{l:List α}{i:Nat}{cs:List Value}{bs:List Nat},mX r F w D i cs bs l-> ∀v∈cs,v.oneCell'=true
 | [],_,cs,bs,h=>by rw [h.1];simp
 |x::l,i,cs,bs,h=>by
  obtain⟨c,d,B,C,rfl,rfl,f,p⟩:=h;intro v A;exact(mA.1 A).elim (f.one v) (aHc p v)
theorem vO {r:Rt α}{D:Hol}(p:Same F F' w w'): ∀{l:List α}{i:Nat}{cs:List Value}{bs:List Nat},(∀k∈bs,w'.heap[k]? =w.heap[k]?)->mX r F w D i cs bs l->mX r F' w' D i cs bs l
 | [],_,_,_,_,h=>h
 |_::_,_,_,_,A,h=>by
  obtain⟨c,d,B,C,rfl,rfl,E,H⟩:=h;exact⟨c,d,B,C,rfl,rfl,E.mono p (λk f=>A k (List.mem_append_left _ f)),vO p (λk f=>A k (List.mem_append_right _ f)) H⟩
theorem aJg {r:Rt α}{D f:Hol}: ∀{l:List α}{i:Nat}{cs:List Value}{bs:List Nat},(∀k,i<=k->k<i+l.length->f.lookup k=D.lookup k)->mX r F w D i cs bs l->mX r F w f i cs bs l
 | [],_,_,_,_,h=>h
 |x::l,i,_,_,p,h=>by
  obtain⟨c,d,A,B,rfl,rfl,C,E⟩:=h;refine⟨c,d,A,B,rfl,rfl,?_,aJg (λk _ _=>p k (by omega) (by simp;omega)) E⟩;rw [p i (Nat.le_refl _) (by simp)];exact C
theorem aOy {r:Rt α}: ∀{l m:List α}{i j:Nat}{cs ds:List Value}{p f:List Nat},mX r F w [] i cs p l->mX r F w [] j ds f m->mX r F w [] i (cs++ds) (p++f) (l++m)
 | [],m,i,j,cs,ds,p,f,h,k=>by
  rw [h.1,h.2];have q: ∀{m:List α}{i j:Nat}{ds:List Value}{f:List Nat},mX r F w [] j ds f m->mX r F w [] i ds f m:=by
   intro m
   induction m with
   |nil=>exact λh=>h
   |cons x m C=>
    intro i j ds f h;obtain⟨c,d,p,f,rfl,rfl,A,B⟩:=h;exact⟨c,d,p,f,rfl,rfl,A,C B⟩
  exact q k
 |x::l,m,i,j,cs,ds,p,f,h,k=>by
  obtain⟨c,d,E,H,rfl,rfl,A,B⟩:=h;exact⟨c,d++ds,E,H++f,by simp,by simp,A,aOy B k⟩
theorem sH {D:Hol}{k i:Nat}{c:List Value}(h:k≠i):List.lookup k ((i,c)::D)=List.lookup k D:=by
 rw [List.lookup_cons];have:(k==i)=false:=by simpa using h
 rw [this]
theorem aA {D:Hol}{i:Nat}{c:List Value}:List.lookup i ((i,c)::D)=some c:=by simp
theorem aMr {r:Rt α}{D:Hol}: ∀{l:List α}{k i:Nat}{cs:List Value}{bs:List Nat}{x:α},l[k]? =some x->D.lookup (i+k)=none->mX r F w D i cs bs l->
  ∃B A f,bs=B++(A++f)/\r.rd F w ((cs.drop (k*r.sz)).take r.sz) A x/\mX r F w ((i+k,(cs.drop (k*r.sz)).take r.sz)::D) i cs (B++f) l
 | [],k,i,cs,bs,x,C,_,_=>by simp at C
 |y::l,0,i,cs,bs,x,C,E,h=>by
  obtain⟨c,d,A,f,rfl,rfl,p,H⟩:=h;obtain rfl:y=x:=by simpa using C
  rw [show D.lookup i=none from E]at p;have e:(List.drop (0*r.sz) (c++d)).take r.sz=c:=by rw [Nat.zero_mul,List.drop_zero,<-r.len p,List.take_left'];rfl
  rw [e];refine⟨[],A,f,rfl,p,c,d,[],f,rfl,rfl,?_,aJg (λk I J=>sH (by omega)) H⟩;rw [Nat.add_zero,aA];exact⟨rfl,rfl,r.len p,r.one p⟩
 |y::l,k+1,i,cs,bs,x,C,E,h=>by
  obtain⟨c,d,L,_,rfl,rfl,p,H⟩:=h;obtain⟨B,A,f,rfl,I,J⟩:=aMr (k:=k) (x:=x) (by simpa using C) (by rw [show i+1+k=i+(k+1)by omega];exact E) H;have e:List.drop ((k+1)*r.sz) (c++d)=List.drop (k*r.sz) d:=by
   rw [show(k+1)*r.sz=c.length+k*r.sz by rw [p.len,Nat.add_mul];omega,List.drop_append,List.drop_eq_nil_of_le (by omega),List.nil_append,show c.length+k*r.sz-c.length=k*r.sz by omega]
  rw [e,show i+(k+1)=i+1+k by omega];refine⟨L++B,A,f,by simp,I,c,d,L,B++f,rfl,by simp,?_,J⟩;rw [sH (by omega)];exact p
theorem aNi {r:Rt α}{D:Hol}{c:List Value}{B:List Nat}{y:α}: ∀{l:List α}{k i:Nat}{cs:List Value}{bs:List Nat},k<l.length->D.lookup (i+k)=none->r.rd F w c B y->mX r F w ((i+k,c)::D) i cs bs l->
  ∃p A,bs=p++A/\mX r F w D i cs (p++(B++A)) (l.set k y)
 | [],k,i,cs,bs,C,_,_,_=>by simp at C
 |x::l,0,i,cs,bs,C,E,I,h=>by
  obtain⟨c',d,J,L,rfl,rfl,f,H⟩:=h;rw [Nat.add_zero,aA]at f;obtain⟨rfl,rfl,M,_⟩:=f;refine⟨[],L,rfl,c',d,B,L,rfl,rfl,?_,aJg (λk _ _=>(sH (by omega)).symm) H⟩;rw [show D.lookup i=none from E];exact I
 |x::l,k+1,i,cs,bs,C,E,I,h=>by
  obtain⟨c',d,J,L,rfl,rfl,f,H⟩:=h;rw [show i+(k+1)=i+1+k by omega]at f H E;obtain⟨p,A,rfl,M⟩:=aNi (k:=k) (by simpa using C) E I H;refine⟨J++p,A,by simp,c',d,J,p++(B++A),rfl,by simp,?_,M⟩;rw [sH (by omega)]at f;exact f
theorem aPo {r:Rt α}{D:Hol}{c c':List Value} (C:c'.length=r.sz) (p: ∀v∈c',v.oneCell'=true): ∀{l:List α}{k i:Nat}{cs:List Value}{bs:List Nat},k<l.length->mX r F w ((i+k,c)::D) i cs bs l->
  mX r F w ((i+k,c')::D) i (splice cs (k*r.sz) c') bs l
 | [],k,i,cs,bs,A,_=>by simp at A
 |x::l,0,i,cs,bs,A,h=>by
  obtain⟨c0,d,H,E,rfl,rfl,f,B⟩:=h;rw [Nat.add_zero,aA]at f;obtain⟨rfl,rfl,I,_⟩:=f;refine⟨c',d,[],E,?_,rfl,?_,aJg (λk _ _=>by rw [sH (by omega),sH (by omega)]) B⟩
  ·unfold splice;rw [Nat.zero_mul,List.take_zero,List.nil_append,Nat.zero_add,C,<-I,List.drop_left'];rfl
  ·rw [Nat.add_zero,aA];exact⟨rfl,rfl,C,p⟩
 |x::l,k+1,i,cs,bs,A,h=>by
  obtain⟨c0,d,H,E,rfl,rfl,f,B⟩:=h;rw [show i+(k+1)=i+1+k by omega]at f B⊢;refine⟨c0,splice d (k*r.sz) c',H,E,?_,rfl,?_,aPo C p (by simpa using A) B⟩
  ·have J:=f.len;unfold splice;rw [show(k+1)*r.sz=c0.length+k*r.sz by rw [J,Nat.add_mul];omega,List.take_append,List.take_of_length_le (by omega),show c0.length+k*r.sz-c0.length=k*r.sz by omega,List.drop_append,List.drop_eq_nil_of_le (by omega),List.nil_append,
    show c0.length+k*r.sz+c'.length-c0.length=k*r.sz+c'.length by omega]
   simp
  ·rw [sH (by omega)]at f⊢;exact f
theorem aEp {r:Rt α}{D:Hol}{c:List Value}: ∀{l:List α}{k i:Nat}{cs:List Value}{bs:List Nat},k<l.length->D.lookup (i+k)=some c->mX r F w D i cs bs l->(cs.drop (k*r.sz)).take r.sz=c
 | [],k,i,cs,bs,p,_,_=>by simp at p
 |x::l,0,i,cs,bs,p,A,h=>by
  obtain⟨c0,d,C,E,rfl,rfl,f,B⟩:=h;rw [show D.lookup i=some c from A]at f;rw [Nat.zero_mul,List.drop_zero,<-f.2.2.1,List.take_left']
  ·exact f.1
  ·rfl
 |x::l,k+1,i,cs,bs,p,A,h=>by
  obtain⟨c0,d,C,E,rfl,rfl,f,B⟩:=h;have e:List.drop ((k+1)*r.sz) (c0++d)=List.drop (k*r.sz) d:=by
   rw [show(k+1)*r.sz=c0.length+k*r.sz by rw [f.len,Nat.add_mul];omega,List.drop_append,List.drop_eq_nil_of_le (by omega),List.nil_append,show c0.length+k*r.sz-c0.length=k*r.sz by omega]
  rw [e];exact aEp (by simpa using p) (by rw [show i+1+k=i+(k+1)by omega];exact A) B
theorem vI {r:Rp α}: ∀{l:List α}{i:Nat}{cs:List Value}{bs:List Nat},mX (Rt.of r) F w [] i cs bs l↔bs=[]/\rows r F w cs l
 | [],_,cs,bs=>⟨λh=>⟨h.2,h.1⟩,λh=>⟨h.2,h.1⟩⟩
 |x::l,i,cs,bs=>by
  constructor
  ·rintro⟨c,d,A,E,rfl,rfl,f,p⟩;obtain⟨rfl,B⟩:A=[]/\r.rd F w c x:=f;obtain⟨rfl,C⟩:=vI.1 p;exact⟨rfl,c,d,rfl,B,C⟩
  ·rintro⟨rfl,c,d,rfl,f,p⟩;exact⟨c,d,[],[],rfl,rfl,⟨rfl,f⟩,vI.2 ⟨rfl,p⟩⟩
def Rt.row (r:Rt α)(e:TypeId)(D:Hol):Rt (List α):=
  ⟨1,λF w cs bs l=> ∃v xs f,cs=[v]/\bs=ob v++f/\mX r F w D 0 xs f l/\OwO w e r.sz v l.length xs,
   λ⟨v,xs,f,e,_⟩=>by subst e;rfl,λ⟨v,xs,f,e,_,_,h⟩=>by subst e;simpa using h.one,
   λC B ⟨v,xs,f,e,p,E,H⟩=>⟨v,xs,f,e,p,vO C (λk A=>B k (by rw [p];exact List.mem_append_right _ A)) E,H.same λk A=>B k (by rw [p];exact List.mem_append_left _ A)⟩⟩
end rt
section hd
variable {P:Program}{ρ:Env}{w w0 w1:World}{d:Option Tmp}{x y z:Operand}{t u ty e:TypeId}{pos:String}{af:Array Edge}{g:Option (Nat×Bool)}
variable {v:Value}{b o i n c s m:Nat}{k k':IntKind}{cs xs vs:List Value}{bs:List Nat}{T:TypeId}{O S:List Nat}{l:List Th}{α β:Type}{r:Rp α}{R:Rt α}{D:Hol}{xl yl zl:List α}{a:α}{j q:Int}{F:Nat->Prop}
theorem Hd.turnN (H:Hd O w0 w S l) (idx:List Nat) (ns:List Th) (M:List Nat) (p:Only M w w1) (C: ∀b∈M,b∈bks (Go.Lf.pick idx l)) (E: ∀b∈bks ns,(b∈bks (Go.Lf.pick idx l)\/w.heap.size<=b)/\b<w1.heap.size) (Y:(bks ns).Nodup)
  (hh:Same (frees O l) (frees O (rest idx l++ns)) w w1-> ∀x∈ns,x.holds (frees O (rest idx l++ns)) w1):Hd O w0 w1 S (rest idx l++ns):=by
 have apart: ∀c∈bks (rest idx l),c∉bks (Go.Lf.pick idx l):=by
  intro c f h;have:=H.rest_apart (ow:=idx) (fs:=[]) (by simp) f;rw [List.append_nil]at this;exact this h
 have old: ∀c∈bks (Go.Lf.pick idx l),c<w.heap.size/\c∈bks l:=λc f=>⟨H.lt (xN f),xN f⟩
 have same:Same (frees O l) (frees O (rest idx l++ns)) w w1:=by
  intro c f hl;refine⟨⟨f.1,λh=>?_⟩,p.block c hl (λh=>f.2 (old c (C c h)).2)⟩;rw [qX,mA]at h;rcases h with h|h
  ·exact f.2 (xN h)
  ·rcases(E c h).1 with h|h
   ·exact f.2 (old c h).2
   ·omega
 refine⟨⟨p.os.trans H.only.os,p.tape.trans H.only.tape,p.output.trans H.only.output,Nat.le_trans H.only.size p.size,λc f B=>?_⟩,λx I=>?_,λx I c f=>?_,?_,H.fo⟩
 ·have J:=Nat.lt_of_lt_of_le f H.only.size;rw [p.block c J (λh=>?_),H.only.block c f B];obtain⟨y,L,A⟩:=dS.1 (old c (C c h)).2;rcases(H.own y L c A).1 with h|h
  ·omega
  ·exact B h
 ·rcases mA.1 I with h|h
  ·obtain⟨i,_,hi⟩:=nR.1 h;refine Th.same (H.V hi) same λc f=>p.block c (H.own _ (qS hi) c f).2 (λhm=>?_)
   exact apart c (dS.2 ⟨x,h,f⟩) (C c hm)
  ·exact hh same x h
 ·rcases mA.1 I with h|h
  ·obtain⟨i,_,hi⟩:=nR.1 h;have:=H.own x (qS hi) c f;exact⟨this.1,Nat.lt_of_lt_of_le this.2 p.size⟩
  ·have q:=E c (dS.2 ⟨x,h,f⟩);refine⟨?_,q.2⟩;rcases q.1 with h|h
   ·obtain⟨y,L,A⟩:=dS.1 (old c h).2;exact(H.own y L c A).1
   ·exact .inl (Nat.le_trans H.only.size h)
 ·rw [qX,List.nodup_append];refine⟨H.pick_nd (aUq _ _),Y,λa X c f e=>?_⟩;subst e;rcases(E a f).1 with h|h
  ·exact apart a X h
  ·have:=H.lt (xN X);omega
theorem Hd.recut (H:Hd O w0 w S l)(idx:List Nat)(p:idx.Nodup)(ns:List Th)(f:(bks ns).Perm (bks (Go.Lf.pick idx l)))(hh: ∀x∈ns,x.holds (frees O l) w):Hd O w0 w S (rest idx l++ns):=
 H.turnN idx ns [] (Only.refl _ w) (by simp) (λc h=>⟨.inl (f.mem_iff.1 h),H.lt (xN (f.mem_iff.1 h))⟩) (f.nodup_iff.2 (H.pick_nd p)) λA x B=>Th.same (hh x B) A λ_ _=>rfl
theorem Hd.split (H:Hd O w0 w S l)(i:Nat){it:Th}(hi:l[i]? =some it)(ns:List Th)(f:(bks ns).Perm it.blocks)(hh: ∀x∈ns,x.holds (frees O l) w):Hd O w0 w S (rest [i] l++ns):=
 H.recut [i] (by simp) ns (by simpa [Go.Lf.pick,hi,bks]using f) hh
theorem Hd.unite (H:Hd O w0 w S l)(idx:List Nat)(f:idx.Nodup)(it:Th)(h:it.blocks.Perm (bks (Go.Lf.pick idx l)))(hh:it.holds (frees O l) w):Hd O w0 w S (rest idx l++[it]):=
 H.recut idx f [it] (by simpa [bks]using h) (by simpa using hh)
theorem jS (h:(Rt.row R e D).rd F w [v] bs xl): ∃a c,v= .slice a xl.length c:=by
 obtain⟨f,xs,_,p,_,_,A⟩:=h;obtain rfl:v=f:=by simpa using p
 exact A.slr.shape
theorem row_one (h:(Rt.row R e D).rd F w [v] bs xl):v.oneCell'=true:=by
 obtain⟨f,xs,_,p,_,_,A⟩:=h;obtain rfl:v=f:=by simpa using p
 exact A.one
theorem Hd.focus (H:Hd O w0 w S l) (i:Nat) (hi:l[i]? =some (.tr (Rt.row R e D) [v] bs xl)) (f:at' xl j=some a) (E:D.lookup j.toNat=none):
  ∃b o cap c A h,v= .slice (some ⟨b,o,none⟩) xl.length cap/\Cells w ⟨b,o+j.toNat*R.sz,none⟩ c/\Hd O w0 w S (rest [i] l++[.tr (Rt.row R e ((j.toNat,c)::D)) [v] A xl,.tr R c h a]):=by
 obtain⟨_,_,I⟩:=zY f;obtain⟨J,xs,A,L,p,M,B⟩:=H.V hi;obtain rfl:v=J:=by simpa using L
 obtain⟨X,h,Y,rfl,r3,C⟩:=aMr I (by rw [Nat.zero_add];exact E) M;rw [Nat.zero_add]at C;obtain⟨b,o,cap,e1,-,-,hc⟩:=B.slr.some (by omega);refine⟨b,o,cap,(xs.drop (j.toNat*R.sz)).take R.sz,ob v++(X++Y),h,e1,hc.drop _ _,H.split i hi _ ?_ ?_⟩
 ·show(bks [_,_]).Perm bs;subst p;simp only [bks,List.flatMap_cons,Th.blocks,List.flatMap_nil,List.append_nil,List.append_assoc];refine List.Perm.append_left _ (List.Perm.append_left _ ?_);exact List.perm_append_comm
 ·intro x f;simp only [List.mem_cons,List.not_mem_nil,or_false]at f;rcases f with rfl|rfl
  ·exact⟨v,xs,_,rfl,rfl,C,B⟩
  ·exact r3
theorem Hd.uf {c:List Value}{E B:List Nat}{a':α}{f:Nat} (H:Hd O w0 w S l) (i k:Nat) (hi:l[i]? =some (.tr (Rt.row R e ((f,c)::D)) [v] E xl)) (C:l[k]? =some (.tr R c B a')) (h:i≠k) (I:j.toNat=f) (J:D.lookup f=none) (L:set' xl j a'=some yl):
    ∃M,Hd O w0 w S (rest [i,k] l++[.tr (Rt.row R e D) [v] M yl]):=by
 subst I;obtain⟨_,_,rfl⟩:=aTp L;obtain⟨X,xs,_,Y,p,r1,r2⟩:=H.V hi;obtain rfl:v=X:=by simpa using Y
 have A:j.toNat<xl.length:=by omega
 obtain⟨b0,b5,rfl,r3⟩:=aNi (i:=0) (k:=j.toNat) (c:=c) (D:=D) A (by rw [Nat.zero_add];exact J) (H.V C) (by rw [Nat.zero_add];exact r1);refine⟨ob v++(b0++(B++b5)),H.unite [i,k] (by simpa using h) _ ?_ ?_⟩;subst p;simp only [Go.Lf.pick,List.filterMap_cons,hi,C,List.filterMap_nil,bks,List.flatMap_cons,Th.blocks,List.flatMap_nil,List.append_nil,List.append_assoc];refine List.Perm.append_left _ (List.Perm.append_left _ ?_);exact List.perm_append_comm;exact⟨v,xs,_,rfl,rfl,r3,by rw [List.length_set];exact r2⟩
theorem Hd.hole (H:Hd O w0 w S l)(i:Nat){c:List Value}{f cap:Nat}(hi:l[i]? =some (.tr (Rt.row R e D) [.slice (some ⟨b,o,none⟩) n cap] bs xl))(p:D.lookup f=some c)(A:f<xl.length):Cells w ⟨b,o+f*R.sz,none⟩ c:=by
 obtain⟨B,xs,_,C,_,I,J⟩:=H.V hi;obtain rfl:_=B:=by simpa using C
 have L:=aEp A (by rw [Nat.zero_add];exact p) I;obtain⟨_,_,_,M,-,-,X⟩:=J.slr.some (by omega);cases M;rw [<-L];exact X.drop _ _
theorem aKu {bytes:Nat}{zs H:List Value}{u':Value} (hu:P.underlying t=some (.slice e)) (he:El P e s bytes zs) (hx:ev ρ x=v) (hy:ev ρ y=u') (B:OwO w e s v n xs) (I:SlR w u' s m H)
  (h1: ∀u∈H,u.oneCell'=true) (Y:n+m<=maxLen) (aa:(n+m)*bytes<=140737488355328):
  ∃A w',Do P ⟨d,.call {callee:= .builtin .append,args:= #[x,y],argTypes:= #[t,t]},ty,pos,af,g⟩ ρ w A w'/\OwO w' e s A (n+m) (xs++H)/\Only (ob v) w w'/\ ∀b∈ob A,b∈ob v\/w.heap.size<=b:=by
 obtain⟨hl,B⟩:=B;rcases B with ⟨rfl,rfl⟩|⟨g',o,cap,L,rfl,C,ac,ad,ae,f⟩
 ·obtain⟨A,w',hd,hA⟩:=aPr (P:=P) (ρ:=ρ) (w:=w) (d:=d) (ty:=ty) (pos:=pos) (af:=af) (g:=g) hu he hx hy (⟨hl,.inl ⟨rfl,rfl⟩⟩:w.ownsRow 0 e s (.slice none 0 0) 0 xs) I h1 Y aa;exact⟨A,w',hd,.of_owns hA.own,hA.only,λb C=>(hA.blk b (rP.1 C)).imp rP.2 id⟩
 obtain⟨i,z,i1,i2,i3,i4,i5⟩:=he.get;have hd: ∀A w',(Builtin.append_ #[t,t] ty #[.slice (some ⟨g',o,none⟩) n cap,u']).run P w= .ok A w'->Do P ⟨d,.call {callee:= .builtin .append,args:= #[x,y],argTypes:= #[t,t]},ty,pos,af,g⟩ ρ w A w':=by
  intro A w' h;unfold Do;simp [execOp,resolve,invoke,builtin,hx,hy,h]
 rcases I.2 with ⟨M,rfl⟩|⟨ua,J,M,h2,h3,_,hc⟩
 ·subst M;have ao:H=[]:=List.eq_nil_of_length_eq_zero (by have:=I.1;omega);subst ao;refine⟨_,w,hd _ _ ?_,⟨by simpa using hl,.inr ⟨g',o,cap,L,rfl,C,ac,ad,ae,by simpa using f⟩⟩,Only.refl _ w,λb C=> .inl C⟩;simp [Builtin.append_,run_underlying hu,sizeOf,typeInfo,i1,Builtin.lenOf,Builtin.firstCells,storeCells,ac]
 ·subst M;have ap:z.cells.size=s:=by rw [i5];simp [he.len]
  by_cases p:n+m<=cap
  ·subst i3;have E:o+n*i.size+H.length<=L.length:=by
    have h9:=Nat.mul_le_mul_right i.size p;rw [Nat.add_mul]at h9;have:=I.1;omega
   obtain⟨w',aq,hW⟩:=OB.run_store (P:=P) C E h1;have ar:=run_firstCells_some (P:=P) w i.size m ua m J H I.1 (λj u hj=>hc j u hj);refine⟨_,w',hd (.slice (some ⟨g',o,none⟩) (n+m) cap) w' ?_,⟨by rw [List.length_append,hl,I.1,Nat.add_mul],.inr ⟨g',o,cap,_,rfl,hW.blk,p,ad,?_,?_⟩⟩,by simpa [ob,jC]using hW.only,λb C=> .inl C⟩
   ·simp [Builtin.append_,run_underlying hu,sizeOf,typeInfo,i1,Builtin.lenOf,p,ar,Addr.add_lit,aq]
   ·rw [aF E];exact ae
   ·have e1:=I.1;apply List.ext_getElem?;intro k;rw [List.getElem?_take,List.getElem?_drop,qI E];have e2: ∀k,xs[k]? =if k<n*i.size then L[o+k]? else none:=by
     intro k;rw [<-f,List.getElem?_take,List.getElem?_drop]
    rw [Nat.add_mul]
    by_cases c1:k<n*i.size
    ·rw [if_pos (by omega),if_pos (by omega),List.getElem?_append_left (by omega),e2,if_pos c1]
    ·rw [List.getElem?_append_right (by omega),hl]
     by_cases c2:k<n*i.size+m*i.size
     ·rw [if_pos c2,if_neg (by omega),if_pos (by omega)];congr 1;omega
     ·rw [if_neg c2,List.getElem?_eq_none (by omega)]
  ·have X:Cells w ⟨g',o,none⟩ xs:=C.part f;obtain⟨A,w',q,ho,hg⟩:=run_append_arg_grows (P:=P) (w:=w) t ty e i z s bytes hu i1 i2 i3 i4 ap he.pos ⟨g',o,none⟩ n cap xs hl (λj u hj=>X j u hj) ua m J H I.1 (λj u hj=>hc j u hj) (by omega) Y aa;have av:w'.ownsRow 0 e s A (n+m) (xs++H):=⟨ho.1,ho.2.imp id λ⟨g,c,u,h1,h2,h3⟩=>⟨g,c,u,h1,Nat.zero_le _,h3⟩⟩;refine⟨A,w',hd _ _ q,.of_owns av,⟨hg.os,hg.tape,hg.output,hg.size,λk hk _=>hg.block k hk (by simp)⟩,λb C=> .inr (aBn ho b C).1⟩
theorem nZ {bytes:Nat}{zs:List Value}{I:Value}{aa:List Nat}{ke:TypeId} (H:Hd O w0 w S l) (i k:Nat) (hi:l[i]? =some (.tr (Rt.row R e []) [v] bs xl)) (hk:l[k]? =some (.tr (Rt.row R ke []) [I] aa yl)) (ab:i≠k) (hu:P.underlying t=some (.slice e)) (he:El P e R.sz bytes zs) (hx:ev ρ x=v) (hy:ev ρ y=I)
  (J:app' bytes xl yl=some zl):
  ∃C w',Do P ⟨d,.call {callee:= .builtin .append,args:= #[x,y],argTypes:= #[t,t]},ty,pos,af,g⟩ ρ w C w'/\ ∃b3,Hd O w0 w' S (rest [i,k] l++[.tr (Rt.row R e []) [C] b3 zl]):=by
 obtain⟨h1,h2,rfl⟩:=aFt J;obtain⟨v1,xs,A,ad,ae,r1,r2⟩:=H.V hi;obtain rfl:v=v1:=by simpa using ad
 obtain⟨v2,ys,B,ag,ah,s1,s2⟩:=H.V hk;obtain rfl:I=v2:=by simpa using ag
 obtain⟨C,w',hd,hA,hO,hn⟩:=aKu (P:=P) (ρ:=ρ) (w:=w) (d:=d) (ty:=ty) (pos:=pos) (af:=af) (g:=g) hu he hx hy r2 s2.slr (aHc s1) h1 h2;have nd:=H.pick_nd (idx:=[i,k]) (by simpa using ab);have Y:bks (Go.Lf.pick [i,k] l)=(ob v++A)++(ob I++B):=by subst ae ah;simp [bks,Go.Lf.pick,hi,hk,Th.blocks]
 have E: ∀c∈(ob v++A)++(ob I++B),c<w.heap.size:=λc f=>H.lt (xN (by rw [Y];exact f))
 rw [Y]at nd;obtain⟨aj,ak,L⟩:=List.nodup_append.1 nd;obtain⟨-,al,M⟩:=List.nodup_append.1 aj;obtain⟨-,am,_⟩:=List.nodup_append.1 ak;have p: ∀c∈A++B,c∈(ob v++A)++(ob I++B):=by
  intro c f;simp only [mA]at f⊢;rcases f with h|h
  ·exact .inl (.inr h)
  ·exact .inr (.inr h)
 have X: ∀c∈A++B,c∉ob v:=by
  intro c f h;rcases mA.1 f with h'|h'
  ·exact M c h c h' rfl
  ·exact L c (List.mem_append_left _ h) c (List.mem_append_right _ h') rfl
 refine⟨C,w',hd,ob C++(A++B),H.turnN [i,k] _ (ob v) hO (λc f=>by rw [Y];exact List.mem_append_left _ (List.mem_append_left _ f)) (λc f=>?_) ?_ (λhs x hx=>?_)⟩
 ·have f:c∈ob C++(A++B):=by simpa [bks,Th.blocks]using f
  rw [Y];rcases mA.1 f with h|h
  ·exact⟨(hn c h).imp (λh=>List.mem_append_left _ (List.mem_append_left _ h)) id,hA.lt c h⟩
  ·exact⟨.inl (p c h),Nat.lt_of_lt_of_le (E c (p c h)) hO.size⟩
 ·have:(ob C++(A++B)).Nodup:=by
   rw [List.nodup_append];refine⟨aAj _,List.nodup_append.2 ⟨al,am,λa J c f=>L a (List.mem_append_right _ J) c (List.mem_append_right _ f)⟩,λa J c f e=>?_⟩;subst e;rcases hn a J with h|h
   ·exact X a f h
   ·have:=E a (p a f);omega
  simpa [bks,Th.blocks]using this
 ·obtain rfl:=mS.1 hx;refine⟨C,xs++ys,A++B,rfl,rfl,?_,by rw [List.length_append];exact hA⟩;exact vO hs (λc f=>hO.block c (E c (p c f)) (X c f)) (aOy r1 s1)
theorem aBa {bytes:Nat}{zs:List Value}{C:Value} (H:Hd O w0 w S l) (i:Nat) (hi:l[i]? =some (.tr (Rt.row (Rt.of r) e []) [v] bs xl)) (J:P.underlying t=some (.slice e)) (L:El P e r.sz bytes zs) (p:ev ρ x=v) (M:ev ρ y=C)
    (X:Sr r (frees O l) w C yl) (Y:app' bytes xl yl=some zl):
    ∃f w',Do P ⟨d,.call {callee:= .builtin .append,args:= #[x,y],argTypes:= #[t,t]},ty,pos,af,g⟩ ρ w f w'/\ ∃b3,Hd O w0 w' S (rest [i] l++[.tr (Rt.row (Rt.of r) e []) [f] b3 zl]):=by
 obtain⟨h1,h2,rfl⟩:=aFt Y;obtain⟨v1,xs,_,A,B,r1,r2⟩:=H.V hi;obtain rfl:v=v1:=by simpa using A
 obtain⟨rfl,r3⟩:=vI.1 r1;obtain⟨ys,s1,s2⟩:=X;obtain⟨f,w',hd,E,hO,hn⟩:=aKu (P:=P) (ρ:=ρ) (w:=w) (d:=d) (ty:=ty) (pos:=pos) (af:=af) (g:=g) J L p M r2 s2 (aMk s1) h1 h2;have I:bks (Go.Lf.pick [i] l)=ob v:=by subst B;simp [bks,Go.Lf.pick,hi,Th.blocks]
 refine⟨f,w',hd,ob f,H.turnN [i] _ (ob v) hO (λc h=>by rw [I];exact h) (λc h=>?_) (by simpa [bks,Th.blocks]using aAj f) (λhs x p=>?_)⟩;have h:c∈ob f:=by simpa [bks,Th.blocks]using h
 rw [I];exact⟨hn c h,E.lt c h⟩;obtain rfl:=mS.1 p;refine⟨f,xs++ys,[],rfl,(List.append_nil _).symm,vI.2 ⟨rfl,?_⟩,by rw [List.length_append];exact E⟩;exact aU hs (sZ r3 s1)
theorem Hd.own_row (H:Hd O w0 w S l)(i:Nat)(hi:l[i]? =some (.own r v e xl)):Hd O w0 w S (l.set i (.tr (Rt.row (Rt.of r) e []) [v] (ob v) xl)):=by
 refine H.turn hi (Only.refl _ w) (λh=>?_) (λb f=>⟨.inl f,(H.own _ (qS hi) b f).2⟩) (aAj v);obtain⟨xs,p,A⟩:=H.V hi;exact⟨v,xs,[],rfl,by simp,vI.2 ⟨rfl,aU h p⟩,.of_owns A⟩
theorem jW (H:Hd O w0 w S l)(R:Rt α)(e:TypeId):Hd O w0 w S (l++[.tr (Rt.row R e []) [.slice none 0 0] [] ([]:List α)]):=
 H.add (Only.refl [] w) (λ_=>⟨_,[],[],rfl,by simp [ob,jC],⟨rfl,rfl⟩,OwO.nil⟩) (by simp [Th.blocks]) (by simp [Th.blocks])
theorem own_part (h:OwO w e s v n xs) {lo hi:Nat} (M:lo<=hi) (C:hi<=n): ∃a c,v= .slice a n c/\n<=c/\OwO w e s (sliced a lo hi c s) (hi-lo) ((xs.drop (lo*s)).take ((hi-lo)*s))/\ob (sliced a lo hi c s)=ob v:=by
 obtain⟨_,h⟩:=h;have p:((xs.drop (lo*s)).take ((hi-lo)*s)).length=(hi-lo)*s:=by
  have Y:(hi-lo)*s+lo*s=hi*s:=by rw [<-Nat.add_mul];congr 1;omega
  have H:=Nat.mul_le_mul_right s C;simp only [List.length_take,List.length_drop];omega
 rcases h with ⟨rfl,rfl⟩|⟨g,o,cap,f,rfl,E,A,_,_,L⟩
 ·obtain rfl:hi=0:=by omega
  obtain rfl:lo=0:=by omega
  refine⟨none,0,rfl,Nat.le_refl _,⟨p,.inl ⟨?_,rfl⟩⟩,?_⟩<;>simp [sliced,ob,jC]
 ·refine⟨some ⟨g,o,none⟩,cap,rfl,A,?_⟩
  by_cases q:cap=lo
  ·have B:sliced (some ⟨g,o,none⟩) lo hi cap s= .slice (some ⟨g,o,none⟩) (hi-lo) (cap-lo):=by unfold sliced;rw [if_pos q]
   rw [B];refine⟨⟨p,.inr ⟨g,o,cap-lo,f,rfl,E,by omega,by omega,?_,?_⟩⟩,by simp [ob,jC]⟩
   ·have:=Nat.mul_le_mul_right s (Nat.sub_le cap lo);omega
   ·have:hi-lo=0:=by omega
    rw [this];simp
  ·have B:sliced (some ⟨g,o,none⟩) lo hi cap s= .slice (some ⟨g,o+lo*s,none⟩) (hi-lo) (cap-lo):=by unfold sliced;rw [if_neg q];simp [Addr.add_none]
   rw [B];refine⟨⟨p,.inr ⟨g,o+lo*s,cap-lo,f,rfl,E,by omega,by omega,?_,?_⟩⟩,by simp [ob,jC]⟩
   ·have:(cap-lo)*s+lo*s=cap*s:=by rw [<-Nat.add_mul];congr 1;omega
    omega
   ·rw [<-L,List.drop_take,List.take_take,List.drop_drop];have:(hi-lo)*s+lo*s=hi*s:=by rw [<-Nat.add_mul];congr 1;omega
    have H:=Nat.mul_le_mul_right s C
    congr 1;omega
theorem aOl {lo hi:Int} (H:Hd O w0 w S l) (i:Nat) (f:l[i]? =some (.tr (Rt.row (Rt.of r) e []) [v] bs xl)) (A:sub' xl lo hi=some yl): ∃a c,v= .slice a xl.length c/\0<=lo/\lo<=hi/\hi<=xl.length/\xl.length<=c/\Hd O w0 w S (l.set i (.tr (Rt.row (Rt.of r) e []) [sliced a lo.toNat hi.toNat c r.sz] bs yl)):=by
 obtain⟨I,J,L,rfl⟩:=aCf A;obtain⟨v1,xs,_,B,C,M,X⟩:=H.V f;obtain rfl:v=v1:=by simpa using B
 obtain⟨rfl,Y⟩:=vI.1 M;obtain⟨a,c,e1,e2,e3,e4⟩:=own_part X (lo:=lo.toNat) (hi:=hi.toNat) (by omega) (by omega);have h:bs=ob v:=C.trans (List.append_nil _);refine⟨a,c,e1,I,J,L,e2,H.turn f (Only.refl _ w) (λA=>?_) (λb E=>⟨.inl E,(H.own _ (qS f) b E).2⟩) (by show bs.Nodup;rw [h];exact aAj v)⟩;have q:(hi-lo).toNat=hi.toNat-lo.toNat:=by omega
 refine⟨_,(xs.drop (lo.toNat*r.sz)).take ((hi.toNat-lo.toNat)*r.sz),[],rfl,by rw [h,<-e4];simp;rfl,vI.2 ⟨rfl,aU A ?_⟩,?_⟩;rw [q];exact aAh _ (uX _ Y);have p:((xl.drop lo.toNat).take (hi-lo).toNat).length=hi.toNat-lo.toNat:=by simp;omega
 rw [p];exact e3
theorem aOc {c vs:List Value}{f off cap mm:Nat}{u':Value} (H:Hd O w0 w S l) (i:Nat) (hi:l[i]? =some (.tr (Rt.row R e ((f,c)::D)) [.slice (some ⟨b,o,none⟩) xl.length cap] bs xl)) (hf:f<xl.length) (hx:ev ρ x= .pointer (some ⟨b,o+f*R.sz+off,none⟩))
  (hs:Sz P t mm) (hm:vs.length=mm) (hy:ev ρ y=u') (aj:u'.cells=vs.toArray) (h1: ∀v∈vs,v.oneCell'=true) (au:off+mm<=R.sz):
  ∃w',DoU P ⟨none,.store t x y,ty,pos,af,g⟩ ρ w w'/\Hd O w0 w' S (l.set i (.tr (Rt.row R e ((f,splice c off vs)::D)) [.slice (some ⟨b,o,none⟩) xl.length cap] bs xl)):=by
 obtain⟨v1,xs,b1,ak,I,r1,am,r2⟩:=H.V hi;obtain rfl:_=v1:=by simpa using ak
 have L:=aEp (c:=c) hf (by rw [Nat.zero_add,aA]) r1;have a7:f*R.sz+R.sz<=xl.length*R.sz:=by rw [<-Nat.succ_mul];exact Nat.mul_le_mul_right _ hf
 have M:c.length=R.sz:=by rw [<-L];simp;omega
 have p: ∀v∈c,v.oneCell'=true:=by
  intro v J;rw [<-L]at J;exact aHc r1 v (List.mem_of_mem_drop (List.mem_of_mem_take J))
 rcases r2 with ⟨h0,_⟩|⟨_,_,_,aa,J,hb,ab,an,ao,ht⟩
 ·cases h0
 cases J
 have hn:=Nat.mul_le_mul_right R.sz ab;obtain⟨w',hd,hW⟩:=sN (P:=P) (ρ:=ρ) (w:=w) (ty:=ty) (pos:=pos) (af:=af) (g:=g) hs hm hx (by rw [hy,aj]) h1 hb (by omega);have X:(splice c off vs).length=R.sz:=by rw [aF (by omega)];exact M
 refine⟨w',hd,H.turn hi (hW.only.mono ?_) (λhs=>?_) (λk Y=>⟨.inl Y,?_⟩) (show bs.Nodup from(sD.1 H.nd).1 _ (qS hi))⟩
 ·intro k Y;subst I;obtain rfl:=mS.1 Y;simp [Th.blocks,ob,jC]
 ·have ac: ∀k∈b1,w'.heap[k]? =w.heap[k]? :=by
   intro k Y;have ap:k∈(Th.tr (Rt.row R e ((f,c)::D)) [.slice (some ⟨b,o,none⟩) xl.length cap] bs xl).blocks:=by subst I;exact List.mem_append_right _ Y
   refine hW.only.block k (H.own _ (qS hi) k ap).2 (λh=>?_);obtain rfl:=mS.1 h;have nd:=(sD.1 H.nd).1 _ (qS hi);have nd:bs.Nodup:=nd;rw [I]at nd;exact(List.nodup_append.1 nd).2.2 k (by simp [ob,jC]) k Y rfl
  have r3:=aPo (c:=c) (c':=splice c off vs) X (by
   intro v J;unfold splice at J;simp only [mA]at J;rcases J with (h|h)|h
   ·exact p v (List.mem_of_mem_take h)
   ·exact h1 v h
   ·exact p v (List.mem_of_mem_drop h)) hf (by rw [Nat.zero_add];exact vO hs ac r1)
  rw [Nat.zero_add]at r3;refine⟨_,_,b1,rfl,I,r3,?_,.inr ⟨b,o,cap,_,rfl,hW.blk,ab,an,?_,?_⟩⟩
  ·rw [aF (by omega)];exact am
  ·rw [aF (by omega)];exact ao
  ·apply List.ext_getElem?;intro k;have A:=qI (cs:=xs) (vs:=splice c off vs) (i:=f*R.sz) (k:=k) (by omega);have B:=qI (cs:=aa) (vs:=vs) (i:=o+f*R.sz+off) (k:=o+k) (by omega);have C:=qI (cs:=c) (vs:=vs) (i:=off) (k:=k-f*R.sz) (by omega);have E: ∀k,xs[k]? =if k<xl.length*R.sz then aa[o+k]? else none:=by
    intro k;rw [<-ht,List.getElem?_take,List.getElem?_drop]
   have ad: ∀k,c[k]? =if k<R.sz then xs[f*R.sz+k]? else none:=by
    intro k;rw [<-L,List.getElem?_take,List.getElem?_drop]
   rw [List.getElem?_take,List.getElem?_drop,A,B]
   by_cases c0:k<xl.length*R.sz
   ·rw [if_pos c0]
    by_cases c1:k<f*R.sz
    ·rw [if_pos (by omega),if_pos c1,E,if_pos c0]
    ·rw [if_neg c1]
     by_cases c2:k<f*R.sz+(splice c off vs).length
     ·rw [if_pos c2,C]
      by_cases c3:k-f*R.sz<off
      ·rw [if_pos (by omega),if_pos c3,ad,if_pos (by omega),E,if_pos (by omega)];congr 1;omega
      ·rw [if_neg (by omega),if_neg c3]
       by_cases c4:k-f*R.sz<off+vs.length
       ·rw [if_pos (by omega),if_pos c4];congr 1;omega
       ·rw [if_neg (by omega),if_neg c4,ad,if_pos (by omega),E,if_pos (by omega)];congr 1;omega
     ·rw [if_neg c2,if_neg (by omega),if_neg (by omega),E,if_pos c0]
   ·rw [if_neg c0,if_neg (by omega),if_neg (by omega),E,if_neg c0]
 ·exact Nat.lt_of_lt_of_le (H.own _ (qS hi) k Y).2 hW.only.size
end hd
section
variable {κ ν:Type} (K:Ky κ)
def aSh [DecidableEq κ]:List (κ×ν)->κ->ν->List (κ×ν)
 | [],k,v=>[(k,v)]
 |p::l,k,v=>if p.1=k then(k,v)::l else p::aSh l k v
theorem aGj [DecidableEq κ] (k:κ)(v:ν): ∀{l:List (κ×ν)},l.any (λp=>decide (p.1=k))=false->aSh l k v=l++[(k,v)]
 | [],_=>rfl
 |p::l,h=>by
  rw [List.any_cons,Bool.or_eq_false_iff]at h;have f: ¬p.1=k:=by simpa using h.1
  rw [aSh,if_neg f,aGj k v h.2,List.cons_append]
theorem aIl [inst:DecidableEq κ] (g:ν->Value) (k:κ) (v:ν): ∀(A:List MapEntry) (l:List (κ×ν)) (i:Nat),A.map (λe=>(e.key,e.val))=dJ K g l->l.any (λp=>decide (p.1=k))=true->
  ∃j u,Instr.findNow K.t (K.f k) A i=some (some (i+j,u))/\(A[j]?).map (·.key)=some (K.f k)/\(A.modify j λe=>{e with key:=K.f k,val:=g v}).map (λe=>(e.key,e.val))=dJ K g (aSh l k v)
 | [],[],i,_,h=>by simp at h
 | [],_::_,i,h,_=>by simp [dJ]at h
 |_::_,[],i,h,_=>by simp [dJ]at h
 |e::A,q::l,i,h,E=>by
  simp only [List.map_cons,dJ,List.cons.injEq,Prod.mk.injEq]at h;obtain⟨⟨B,J⟩,H⟩:=h;have I:=K.now k q.1;have hd:(@decide (k=q.1) (K.dec k q.1))=decide (q.1=k):=by
   by_cases c:q.1=k
   ·simp [c]
   ·have c2: ¬k=q.1:=λh=>c h.symm
    simp [c,c2]
  rw [hd]at I;have L:Instr.findNow K.t (K.f k) (e::A) i=if decide (q.1=k)=true then some (some (i,e.val))else Instr.findNow K.t (K.f k) A (i+1):=by
   rw [Instr.findNow,B,I]
   cases decide (q.1=k)<;>rfl
  rw [L]
  by_cases c:q.1=k
  ·refine⟨0,e.val,by simp [c],by simp [B,c],?_⟩;simp only [List.modify_zero_cons,List.map_cons,aSh,if_pos c,dJ];rw [H]
  ·have C:l.any (λp=>decide (p.1=k))=true:=by
    rw [List.any_cons]at E;simpa [c]using E
   obtain⟨j,u,M,X,Y⟩:=aIl g k v A l (i+1) H C;refine⟨j+1,u,by simp [c,M];omega,by simpa using X,?_⟩;simp only [List.modify_succ_cons,List.map_cons,aSh,if_neg c,dJ];rw [Y,B,J];rfl
end
section
variable {P:Program}{ρ:Env}{w w0:World}{d:Option Tmp}{x y z:Operand}{t kt et ty:TypeId}{pos:String}{af:Array Edge}{g:Option (Nat×Bool)}{O S:List Nat}{l:List Th}{i b:Nat}{κ ν:Type}{K:Ky κ}{G:ν->Value}{m m':List (κ×ν)}{k:κ}{v:ν}
theorem aQc [DecidableEq κ] (H:Hd O w0 w S l) (i:Nat) (hi:l[i]? =some (.mp b (dJ K G m))) (hu:P.underlying t=some (.map kt et)) (L:P.underlying kt=some K.t) (hx:ev ρ x= .map (some b)) (hy:ev ρ y=K.f k) (hz:ev ρ z=G v) (hp:aSh m k v=m'):
  ∃w',DoU P ⟨none,.mapUpdate t x y z,ty,pos,af,g⟩ ρ w w'/\Hd O w0 w' S (l.set i (.mp b (dJ K G m'))):=by
 subst hp;obtain⟨h,c,A,X⟩: ∃(h:Array MapEntry) (c:Nat),w.heap[b]? =some (.map h c)/\h.toList.map (λe=>(e.key,e.val))=dJ K G m:=H.V hi
 cases ha:m.any (λp=>decide (p.1=k))with
 |false=>
  have M:=(aBg K G k h.toList m 0 X).1 ha;have C:=MapKept.heap_set (o':=Obj.map (h.push {key:=K.f k,val:=G v,born:=c}) (c+1)) A;refine⟨{w with heap:=w.heap.setIfInBounds b (.map (h.push {key:=K.f k,val:=G v,born:=c}) (c+1))},?_,?_⟩
  ·unfold DoU;have q:(Instr.mapUpdate t (.map (some b)) (K.f k) (G v)).run P w= .ok () {w with heap:=w.heap.setIfInBounds b (.map (h.push {key:=K.f k,val:=G v,born:=c}) (c+1))}:=by
    simp [Instr.mapUpdate,run_underlying hu,MapKept.run_getObj_map A,MapKept.run_checkKey L (K.key k) false 9999,MapKept.run_findKey L M,MapKept.run_setObj_map _ A,Result.andThen]
   simp [execOp,hx,hy,hz,q]
  ·refine H.turn hi ⟨rfl,rfl,rfl,by simp,λj E Y=>?_⟩ (λ_=>⟨_,_,C.1,?_⟩) (λj E=>?_) (by simp [Th.blocks])
   ·exact C.2 j (by simpa [Th.blocks]using Y)
   ·rw [Array.toList_push,List.map_append,X,aGj k v ha];simp [dJ]
   ·obtain rfl:j=b:=by simpa [Th.blocks]using E
    refine⟨.inl (by simp [Th.blocks]),?_⟩;have:=(Array.getElem?_eq_some_iff.1 A).1;simpa using this
 |true=>
  obtain⟨j,u,M,I,J⟩:=aIl K G k v h.toList m 0 X ha;rw [Nat.zero_add]at M;have B:((h[j]?).map (·.key)).getD (K.f k)=K.f k:=by
   have:(h[j]?).map (·.key)=some (K.f k):=by simpa using I
   rw [this];rfl
  have C:=MapKept.heap_set (o':=Obj.map (h.modify j λe=>{e with key:=K.f k,val:=G v}) c) A;refine⟨{w with heap:=w.heap.setIfInBounds b (.map (h.modify j λe=>{e with key:=K.f k,val:=G v}) c)},?_,?_⟩
  ·unfold DoU;have q:(Instr.mapUpdate t (.map (some b)) (K.f k) (G v)).run P w= .ok () {w with heap:=w.heap.setIfInBounds b (.map (h.modify j λe=>{e with key:=K.f k,val:=G v}) c)}:=by
    simp [Instr.mapUpdate,run_underlying hu,MapKept.run_getObj_map A,MapKept.run_checkKey L (K.key k) false 9999,MapKept.run_findKey L M,B,MapKept.run_keyThatStays (K.key k),MapKept.run_setObj_map _ A,Result.andThen]
   simp [execOp,hx,hy,hz,q]
  ·refine H.turn hi ⟨rfl,rfl,rfl,by simp,λj E Y=>?_⟩ (λ_=>⟨_,_,C.1,?_⟩) (λj E=>?_) (by simp [Th.blocks])
   ·exact C.2 j (by simpa [Th.blocks]using Y)
   ·rw [Array.toList_modify];exact J
   ·obtain rfl:j=b:=by simpa [Th.blocks]using E
    refine⟨.inl (by simp [Th.blocks]),?_⟩;have:=(Array.getElem?_eq_some_iff.1 A).1;simpa using this
end
theorem xO {β:Type}{b:Bool}{x:Option β}{r:β}(h:gQ b none x=some r):b=false/\x=some r:=by
 cases b;exact⟨rfl,h⟩;cases h
theorem sW {β:Type}{b:Bool}{x:Option β}{r:β}(h:gQ b x none=some r):b=true/\x=some r:=by
 cases b;cases h;exact⟨rfl,h⟩
section
variable {P:Program}{N:Nat}{ops:Array Oper}{Q:Exit->Env->World->Prop}{rest:List Oper}{ρ:Env}{w:World}{d:Nat}{ty:TypeId}{pos:String}{af:Array Edge}{g:Option (Nat×Bool)}{b:Bool}{x:Operand}{y z:Code}
theorem dM (c:b=false)(k:WP P N z Q ρ w)(f:ev ρ x= .bool b:=by exact rfl):WP P N (.cond x y z) Q ρ w:=xQ (f.trans (congrArg Value.bool c)) k
theorem aNn (c:b=true)(k:WP P N y Q ρ w)(f:ev ρ x= .bool b:=by exact rfl):WP P N (.cond x y z) Q ρ w:=aEr (f.trans (congrArg Value.bool c)) k
theorem aTe (c:Bool)(e:b=c)(k:RL P N ops Q rest (upd ρ d (.bool c)) w)(f:ev ρ x= .bool b:=by exact rfl)(h:fU N ops ρ ⟨some d,.move x,ty,pos,af,g⟩=true:=by exact rfl)(hd:Nat.blt d N=true:=by exact rfl):RL P N ops Q (⟨some d,.move x,ty,pos,af,g⟩::rest) ρ w:=aQ h hd (mW (f.trans (congrArg Value.bool e))) k
end
end Go.Lf
namespace Go.Mx
open Go.RowKit Go.OB Go.Lf
end Go.Mx
namespace Go.MxM
open Go.RowKit Go.OB Go.Lf
theorem XL_sp {P:Program}{I:World->Prop}{N:Nat}{ops:Array Oper}{κ:List Kd}{K:Mm->Env->World->Prop}{M:Mm}{σ:List Nat}{k:Nat}{rest:List Oper}{ρ:Env}{w:World}{d:Nat}{ty:TypeId}{pos:String}{af:Array Edge}{g:Option (Nat×Bool)}{b:Bool}{x:Operand}
  (c:Bool)(e:b=c)(m:XL P I N ops κ K M σ rest (upd ρ d (.bool c)) w)(f:ev ρ x= .bool b:=by exact rfl)(h:kdOf κ k= .pure:=by exact rfl)(p:fU N ops ρ ⟨some d,.move x,ty,pos,af,g⟩=true:=by exact rfl)(hd:Nat.blt d N=true:=by exact rfl):XL P I N ops κ K M (k::σ) (⟨some d,.move x,ty,pos,af,g⟩::rest) ρ w:=XL_pure h p hd (λ_ _=>mW (f.trans (congrArg Value.bool e))) m
end Go.MxM
