/- Laws that the claim stands on; no condition beyond those stated. -/
import Derived.Test.YtbjofgmdhbiekaaGreatDoorLfR
import Derived.Defers
import Derived.Recover
import Derived.MapKept
namespace Go.Lf
open Go.RowKit Go.OB
structure wX (N:Nat)(a:Act)(ρ:Env)(ds:List Deferred):Prop where
 size:a.tmps.size=N
 dfr:a.defers=ds
 get: ∀i,a.tmps.getD i undef=ρ i
theorem wX.fits {N:Nat}{a:Act}{ρ:Env}{ds:List Deferred}(h:wX N a ρ ds):Fits N {a with defers:=[]} ρ:=⟨h.size,rfl,h.get⟩
theorem wX.eval {N:Nat}{a:Act}{ρ:Env}{ds:List Deferred}(h:wX N a ρ ds):a.eval=ev ρ:=by
 have:=h.fits.eval;rw [<-this];funext x;cases x<;>rfl
theorem wX.wanted {N:Nat}{a:Act}{ρ:Env}{ds:List Deferred}(h:wX N a ρ ds)(ops:Array Oper)(o:Oper):Region.wanted o (yielded ops a.tmps)=fM N ops ρ o:=h.fits.wanted ops o
theorem wX.put {N:Nat}{a:Act}{ρ:Env}{ds:List Deferred}(h:wX N a ρ ds){d:Option Tmp}(hd:aSf N d=true)(v:Value):wX N (a.put d v) (updo ρ d v) ds:=by
 have q:=h.fits.put hd v
 cases d with
 |none=>exact h
 |some d=>exact⟨q.size,h.dfr,q.get⟩
def liftD (N:Nat)(Q:Exit->List Deferred->Env->World->Prop):Exit->Act->World->Prop:=λe a w=> ∃ρ ds,wX N a ρ ds/\Q e ds ρ w
def WPD (P:Program)(N:Nat)(ds:List Deferred)(c:Code)(Q:Exit->List Deferred->Env->World->Prop)(ρ:Env)(w:World):Prop:= ∀a,wX N a ρ ds->c.wp P (liftD N Q) a w
def RLD (P:Program)(N:Nat)(ops:Array Oper)(ds:List Deferred)(Q:Exit->List Deferred->Env->World->Prop)(l:List Oper)(ρ:Env)(w:World):Prop:= ∀a,wX N a ρ ds->wpList P ops (liftD N Q) l a w
def thenD (K:List Deferred->Env->World->Prop)(Q:Exit->List Deferred->Env->World->Prop):Exit->List Deferred->Env->World->Prop
 | .normal,ds,ρ,w=>K ds ρ w
 |e,ds,ρ,w=>Q e ds ρ w
section
variable {P:Program}{N:Nat}{Q:Exit->List Deferred->Env->World->Prop}{ρ:Env}{w w':World}{ds:List Deferred}{ops:Array Oper}{o:Oper}{rest:List Oper}{v:Value}{d:Nat}{op:Op}{ty:TypeId}{pos:String}{af:Array Edge}{g:Option (Nat×Bool)}
theorem aIq {x y:Code}(h:WPD P N ds x (thenD (λf p w'=>WPD P N f y Q p w') Q) ρ w):WPD P N ds (.seq x y) Q ρ w:=by
 intro a C;refine wp_seq (wp_mono (h a C) ?_);rintro e a' w' ⟨p,f,A,B⟩
 cases e<;>first |exact B a' A|exact⟨p,f,A,B⟩
theorem WPD_ret (h:Q .ret ds ρ w):WPD P N ds .ret Q ρ w:=λ_ f=>wp_ret ⟨ρ,ds,f,h⟩
theorem aBd {id:Nat}{l:List Oper}(h:RLD P N l.toArray ds Q l ρ w):WPD P N ds (.region id l.toArray false) Q ρ w:=λa f=>wp_region_lit (h a f)
theorem aJf (h:Q .normal ds ρ w):RLD P N ops ds Q [] ρ w:=λ_ f=>wpList_nil ⟨ρ,ds,f,h⟩
theorem aNx (p:fM N ops ρ ⟨some d,op,ty,pos,af,g⟩=true)(hd:Nat.blt d N=true)(h:Do P ⟨some d,op,ty,pos,af,g⟩ ρ w v w')(k:RLD P N ops ds Q rest (upd ρ d v) w'):RLD P N ops ds Q (⟨some d,op,ty,pos,af,g⟩::rest) ρ w:=by
 intro a f;unfold wpList;rw [f.wanted,p,if_pos rfl];refine .inl ?_;unfold Oper.wp;rw [f.eval,show(execOp (ev ρ) _).run P w=_ from h];exact k _ (f.put (wE hd) v)
theorem RLD_ex {R:Value->World->Prop}(f:fM N ops ρ ⟨some d,op,ty,pos,af,g⟩=true)(hd:Nat.blt d N=true)(h: ∃v w',Do P ⟨some d,op,ty,pos,af,g⟩ ρ w v w'/\R v w')
    (k: ∀v w',R v w'->RLD P N ops ds Q rest (upd ρ d v) w'):RLD P N ops ds Q (⟨some d,op,ty,pos,af,g⟩::rest) ρ w:=by
 obtain⟨v,w',p,A⟩:=h;exact aNx f hd p (k v w' A)
theorem RLD_exU {R:World->Prop}(p:fM N ops ρ ⟨none,op,ty,pos,af,g⟩=true)(h: ∃w',DoU P ⟨none,op,ty,pos,af,g⟩ ρ w w'/\R w')(k: ∀w',R w'->RLD P N ops ds Q rest ρ w'):RLD P N ops ds Q (⟨none,op,ty,pos,af,g⟩::rest) ρ w:=by
 obtain⟨w',A,B⟩:=h;intro a f;unfold wpList;rw [f.wanted,p,if_pos rfl];refine .inl ?_;unfold Oper.wp;rw [f.eval,show(execOp (ev ρ) _).run P w=_ from A];exact k _ B _ f
theorem RLD_defer {x:Deferred}(p:fM N ops ρ ⟨none,op,ty,pos,af,g⟩=true)(h:(execOp (ev ρ) ⟨none,op,ty,pos,af,g⟩).run P w= .ok (.defer x) w)(k:RLD P N ops (x::ds) Q rest ρ w):RLD P N ops ds Q (⟨none,op,ty,pos,af,g⟩::rest) ρ w:=by
 intro a f;unfold wpList;rw [f.wanted,p,if_pos rfl];refine .inl ?_;unfold Oper.wp;rw [f.eval,h];exact k _ ⟨f.size,congrArg (x:: ·) f.dfr,f.get⟩
theorem RLD_call {f:FuncId}{args:Array Value}{R:Ending->World->Prop}(B:fM N ops ρ ⟨some d,op,ty,pos,af,g⟩=true)(hd:Nat.blt d N=true)(h:DoC P ⟨some d,op,ty,pos,af,g⟩ ρ w f args)
    (C:Calls P f args w R)(k: ∀e w',R e w'-> ∃v,e= .returned v/\RLD P N ops ds Q rest (upd ρ d v) w'):RLD P N ops ds Q (⟨some d,op,ty,pos,af,g⟩::rest) ρ w:=by
 intro a p;unfold wpList;rw [p.wanted,B,if_pos rfl];refine .inl ?_;unfold Oper.wp;rw [p.eval,show(execOp (ev ρ) _).run P w=_ from h];refine C.mono λe A E=>?_;obtain⟨v,rfl,H⟩:=k e A E;exact H _ (p.put (wE hd) v)
def postD (P:Program)(fn:Func)(R:Ending->World->Prop):Exit->List Deferred->Env->World->Prop
 | .normal,ds,ρ,w| .ret,ds,ρ,w=> ∀f:Array Value,(∀i,f.getD i undef=ρ i)->Leaves P fn f R ds .returning w
 | .panic h,ds,ρ,w=> ∀f:Array Value,(∀i,f.getD i undef=ρ i)->Leaves P fn f R ds (.panicking h) w
 |_,_,_,_=>False
theorem aPk {f:FuncId}{fn:Func}{c:Code}{args:List Value}{R:Ending->World->Prop} (N:Nat)
  (p:P.funcs[f]? =some fn) (E:fn.body=some c) (H:fn.ntmps=N) (C:Nat.ble args.length N=true)
  (h:WPD P N [] c (postD P fn R) (aLz args) w):Calls P f args.toArray w R:=by
 refine calls_of_wp_defers p E ?_;have C:=Nat.le_of_ble_eq_true C;subst H;have A:wX fn.ntmps {tmps:=args.toArray++Array.replicate (fn.ntmps-args.toArray.size) undef,defers:=[]} (aLz args) []:=by
  refine⟨by simp;omega,rfl,λi=>?_⟩;rw [<-aJr];simp only [Array.getD_eq_getD_getElem?,Array.getElem?_append,List.getD_eq_getElem?_getD,List.size_toArray,Array.getElem?_replicate,List.getElem?_toArray];split
  ·rfl
  ·rename_i _;rw [List.getElem?_eq_none (by omega)];split<;>rfl
 refine wp_mono (h _ A) ?_;rintro e a w ⟨ρ,ds,p,B⟩
 cases e<;>simp only [postD]at B<;>simp only [bodyPostD]
 case normal=>rw [p.dfr];exact B _ p.get
 case ret=>rw [p.dfr];exact B _ p.get
 case panic ch=>rw [p.dfr];exact B _ p.get
theorem aTk {fn:Func}{f:Array Value}{R:Ending->World->Prop}{p:Array ResultVar}(A:fn.results=p)(B: ∀i,f.getD i undef=ρ i)(h:aAg P p R .ret ρ w):Leaves P fn f R [] .returning w:=by
 subst A;obtain⟨v,C,E⟩:=h;refine⟨v,?_,E⟩;rw [<-C];congr 1;unfold results bJ;simp only [B];rfl
end
section
variable {P:Program}{ρ:Env}{w:World}{d:Option Tmp}{x:Operand}{ty:TypeId}{pos:String}{af:Array Edge}{g:Option (Nat×Bool)}
theorem DoC_bnd {f:FuncId}{args:Array Operand}{h:Array TypeId}{us first:List Value}(B:Go.OB.Enters P f)(C:ev ρ x= .func (.func f) first.toArray #[])(E:args.toList.map (ev ρ)=us):
  DoC P ⟨d,.call {callee:= .value x,args:=args,argTypes:=h},ty,pos,af,g⟩ ρ w f (first++us).toArray:=by
 obtain⟨fn,H,_,I⟩:=B;have p: ¬fn.body=none:=by cases hb:fn.body<;>simp_all
 have A: ¬fn.name= "runtime.NumGoroutine" :=by simpa using I
 have J: ∀as,(callFunc f as).run P w= .ok (.enter f as) w:=by
  intro as;simp [callFunc,Sem.run,H,p,A,program]
 unfold DoC;have e:args.map (ev ρ)=us.toArray:=by rw [<-E];apply Array.ext';simp
 simp only [execOp,resolve,C,Deferred.ofValue];rw [e];simp [invoke,J]
theorem run_defer {f:FuncId}{args:Array Operand}{h:Array TypeId}{us cap:List Value}(p:ev ρ x= .func (.func f) #[] cap.toArray)(A:args.toList.map (ev ρ)=us):
    (execOp (ev ρ) ⟨d,.defer {callee:= .value x,args:=args,argTypes:=h},ty,pos,af,g⟩).run P w= .ok (.defer {target:= .fn (.func f) cap.toArray,args:=us.toArray}) w:=by
 have e:args.map (ev ρ)=us.toArray:=by rw [<-A];apply Array.ext';simp
 simp only [execOp,resolve,p,Deferred.ofValue];rw [e];simp
end
section
variable {P:Program}{ops:Array Oper}{a:Act}{w:World}
theorem upon_q {o:Oper}{K K':Act->World->Prop}{Q Q':Exit->Act->World->Prop}(hk: ∀a w,K a w->K' a w)(hq: ∀e a w,e≠ .normal->Q e a w->Q' e a w)(h:o.wp P a w K Q):o.wp P a w K' Q':=by
  unfold Oper.wp Oper.upon at *
  split at h<;>first
    | exact hk _ _ h
    | exact hq _ _ _ (by simp) h
    | exact h.elim
    | (refine Calls.mono h λe w' hr=>?_
       cases e with
       | returned v=>exact hk _ _ hr
       | panicked _=>exact hq _ _ _ (by simp) hr
       | outgrown=>obtain ⟨a0,w0,h0⟩:=hr; exact ⟨a0,w0,hq _ _ _ (by simp) h0⟩)
    | (intro fr cs; obtain ⟨v,w'',hR,hs⟩:=h fr cs; exact ⟨v,w'',hk _ _ hR,hs⟩)
theorem aDm {Q:Exit->Act->World->Prop}: ∀(l:List Oper) (k:Nat) (a:Act) (w:World),wpList P ops (λe a w=>match e with | .normal=>wpList P ops Q (l.drop k) a w|e=>Q e a w) (l.take k) a w->wpList P ops Q l a w
 |l,0,a,w,h=>by simpa [wpList]using h
 | [],k+1,a,w,h=>by simpa [wpList]using h
 |o::l,k+1,a,w,h=>by
  rw [List.take_succ_cons,wpList]at h;rw [wpList];simp only [List.drop_succ_cons]at h;split at h
  ·rename_i f;rw [if_pos f];rcases h with h|⟨p,a0,w0,A⟩
   ·exact .inl (upon_q (λa w h=>aDm l k a w h) (λe a w B h=>by cases e<;>first |exact h|exact absurd rfl B) h)
   ·exact .inr ⟨p,a0,w0,A⟩
  ·rename_i f;rw [if_neg f];exact aDm l k _ _ h
theorem xA {N:Nat}{Q:Exit->Env->World->Prop}{ρ:Env}{l:List Oper} (k:Nat) (W:List Nat) (S:List (Nat×Value)) (I:World->Prop)
  (h:RL P N ops (mX (λf w'=>Fr W ρ f/\Sl f S/\I w') Q) (l.take k) ρ w) (J: ∀p w1,I w1->RL P N ops Q (l.drop k) (over ρ p W S) w1):RL P N ops Q l ρ w:=by
 intro a L;refine aDm l k a w ?_;have mono: ∀(l1:List Oper) (a:Act) (w:World),wpList P ops (aEe N (mX (λf w'=>Fr W ρ f/\Sl f S/\I w') Q)) l1 a w->wpList P ops (λe a w=>match e with | .normal=>wpList P ops (aEe N Q) (l.drop k) a w|e=>aEe N Q e a w) l1 a w:=by
  have A: ∀a w,aEe N (mX (λf w'=>Fr W ρ f/\Sl f S/\I w') Q) .normal a w->wpList P ops (aEe N Q) (l.drop k) a w:=by
   rintro a w ⟨f,M,B,C,X⟩;have q:=J f w X;rw [aPx B C]at q;exact q a M
  intro l1
  induction l1 with
  |nil=>intro a w h;rw [wpList]at h⊢;exact A a w h
  |cons o l1 H=>
   intro a w h;rw [wpList]at h⊢;split at h
   ·rename_i E;rw [if_pos E];rcases h with h|⟨B,a0,w0,C⟩
    ·exact .inl (upon_q H (λe a w Y h=>by cases e<;>first |exact h|exact absurd rfl Y) h)
    ·exact .inr ⟨B,a0,w0,C⟩
   ·rename_i E;rw [if_neg E];exact H _ _ h
 exact mono _ a w (h a L)
end
theorem meet {W:List Nat}{ρ f:Env}{B:Prop}(h:B)(p:Fr W ρ f:=by repeat' (first |with_reducible exact aEy|refine aPf rfl ?_|refine aIt rfl rfl ?_)):Fr W ρ f/\B:=⟨p,h⟩
theorem aSg {α:Type}{a b:α}(h:some a=some b):a=b:=oI h
theorem xX {P:Program}{o:Oper}{ρ:Env}{w w':World}{b c:Bool}(h:Do P o ρ w (.bool b) w')(e:b=c):Do P o ρ w (.bool c) w':=e▸h
section
variable {P:Program}{N:Nat}{ops:Array Oper}{Q:Exit->Env->World->Prop}{rest:List Oper}{ρ:Env}{w w':World}{v:Value}{d:Nat}{op:Op}{ty:TypeId}{pos:String}{af:Array Edge}{g:Option (Nat×Bool)}
theorem zJ (h:Do P ⟨some d,op,ty,pos,af,g⟩ ρ w v w')(k:RL P N ops Q rest (upd ρ d v) w')(f:fM N ops ρ ⟨some d,op,ty,pos,af,g⟩=true:=by exact rfl)(hd:Nat.blt d N=true:=by exact rfl):RL P N ops Q (⟨some d,op,ty,pos,af,g⟩::rest) ρ w:=aF f hd h k
theorem zM (k:RL P N ops Q rest (upd ρ d undef) w)(f:fM N ops ρ ⟨some d,op,ty,pos,af,g⟩=false:=by exact rfl)(hd:Nat.blt d N=true:=by exact rfl):RL P N ops Q (⟨some d,op,ty,pos,af,g⟩::rest) ρ w:=RL_off f hd k
theorem zA {x:Operand}(v:Value)(k:RL P N ops Q rest (upd ρ d v) w)(h:ev ρ x=v:=by exact rfl)(f:fM N ops ρ ⟨some d,.move x,ty,pos,af,g⟩=true:=by exact rfl)(hd:Nat.blt d N=true:=by exact rfl):RL P N ops Q (⟨some d,.move x,ty,pos,af,g⟩::rest) ρ w:=aF f hd (aA h) k
theorem zB {x:Operand}(v:Value)(k:RL P N ops Q rest (upd ρ d v) w)(h:ev ρ x=v:=by exact rfl)(f:fM N ops ρ ⟨some d,.assign x,ty,pos,af,g⟩=true:=by exact rfl)(hd:Nat.blt d N=true:=by exact rfl):RL P N ops Q (⟨some d,.assign x,ty,pos,af,g⟩::rest) ρ w:=aF f hd (yT h) k
end
structure Ky (κ:Type) where
 f:κ->Value
 t:TypeDesc
 key: ∀a,MapKept.IsKey t (f a)
 dec:DecidableEq κ
 now: ∀a b,Instr.sameNow t (f a) (f b)=some (@decide (a=b) (dec a b))
def Ky.int (k:IntKind):Ky Int:=⟨λa=> .int k a,.int k,λ_=>rfl,inferInstance,λa b=>by simp [Instr.sameNow,BEq.beq]⟩
def Ky.str:Ky Str:=⟨λa=> .string (bs a),.string,λ_=>trivial,inferInstance,λa b=>by
 show some (bs a==bs b)=some (decide (a=b))
 have e:(bs a==bs b)=(a.toArray==b.toArray):=rfl
 rw [e]
 congr 1
 rw [Bool.eq_iff_iff,beq_iff_eq,decide_eq_true_eq]
 exact⟨λh=>by simpa using h,λh=>by rw [h]⟩⟩
section
variable {κ ν:Type} (K:Ky κ)
def jB [DecidableEq κ] (l:List (κ×ν))(k:κ)(z:ν):ν:=match l.find? λp=>decide (p.1=k)with
 |some p=>p.2
 |none=>z
def mput [DecidableEq κ] (l:List (κ×ν))(k:κ)(v:ν):Option (List (κ×ν)):=if l.any (λp=>decide (p.1=k))=true then none else some (l++[(k,v)])
def dO (K:Ky κ)(g:ν->Value)(l:List (κ×ν)):List (Value×Value):=l.map λp=>(K.f p.1,g p.2)
theorem vG [inst:DecidableEq κ] (g:ν->Value) (k:κ): ∀(A:List MapEntry) (l:List (κ×ν)) (i:Nat),A.map (λe=>(e.key,e.val))=dO K g l->
  (l.any (λp=>decide (p.1=k))=false->Instr.findNow K.t (K.f k) A i=some none)/\(∀p,l.find? (λp=>decide (p.1=k))=some p-> ∃j,Instr.findNow K.t (K.f k) A i=some (some (j,g p.2)))
 | [],[],i,_=>⟨λ_=>rfl,λp h=>by simp at h⟩
 | [],_::_,i,h=>by simp [dO]at h
 |_::_,[],i,h=>by simp [dO]at h
 |e::A,q::l,i,h=>by
  simp only [List.map_cons,dO,List.cons.injEq,Prod.mk.injEq]at h;obtain⟨⟨I,J⟩,L⟩:=h;have E:=vG g k A l (i+1) L;have H:=K.now k q.1;have hd:(@decide (k=q.1) (K.dec k q.1))=decide (q.1=k):=by
   by_cases c:q.1=k
   ·simp [c]
   ·have c2: ¬k=q.1:=λh=>c h.symm
    simp [c,c2]
  rw [hd]at H;have M:Instr.findNow K.t (K.f k) (e::A) i=if decide (q.1=k)=true then some (some (i,e.val))else Instr.findNow K.t (K.f k) A (i+1):=by
   rw [Instr.findNow,I,H]
   cases decide (q.1=k)<;>rfl
  rw [M];constructor
  ·intro C;rw [List.any_cons,Bool.or_eq_false_iff]at C;rw [C.1];exact E.1 C.2
  ·intro p B;rw [List.find?_cons]at B
   cases c:decide (q.1=k)with
   |true=>rw [c]at B;obtain rfl:=oI B;exact⟨i,by simp [J]⟩
   |false=>rw [c]at B;obtain⟨j,X⟩:=E.2 p B;exact⟨j,by simpa using X⟩
end
section
variable {P:Program}{ρ:Env}{w w0:World}{d:Option Tmp}{x y z:Operand}{t kt et ty:TypeId}{pos:String}{af:Array Edge}{g:Option (Nat×Bool)}{O S:List Nat}{l:List Th}{i b:Nat}{κ ν:Type}{K:Ky κ}{G:ν->Value}{m m':List (κ×ν)}{k:κ}{v:ν}
theorem StB_nil {c:Nat}:StB #[] c:=⟨by simp,by simp⟩
theorem aJk {p:Array MapEntry}{c:Nat} (h:StB p c) (k v:Value):StB (p.push {key:=k,val:=v,born:=c}) (c+1):=by
 refine⟨λe f=>?_,?_⟩
 ·rw [Array.toList_push,mA,mS]at f;rcases f with f|rfl
  ·exact Nat.lt_succ_of_lt (h.1 e f)
  ·exact Nat.lt_succ_self _
 ·rw [Array.toList_push,List.map_append,List.nodup_append];refine⟨h.2,by simp,λa B b A=>?_⟩;obtain⟨e,f,rfl⟩:=List.mem_map.1 B;simp only [List.map_cons,List.map_nil,mS]at A;subst A;exact Nat.ne_of_lt (h.1 e f)
theorem aXk {p:Array MapEntry}{c:Nat} (h:StB p c) (i:Nat) (f:MapEntry->MapEntry) (E: ∀e,(f e).born=e.born):StB (p.modify i f) c:=by
 have B:(p.modify i f).toList.map (·.born)=p.toList.map (·.born):=by
  apply List.ext_getElem?;intro j;simp only [List.getElem?_map,Array.getElem?_toList,Array.getElem?_modify]
  by_cases A:i=j
  ·subst A
   cases C:p[i]? with
   |none=>simp
   |some e=>simp [E e]
  ·simp [A]
 refine⟨λe C=>?_,B▸h.2⟩;have:e.born∈(p.modify i f).toList.map (·.born):=List.mem_map.2 ⟨e,C,rfl⟩;rw [B]at this;obtain⟨y,H,q⟩:=List.mem_map.1 this;rw [<-q];exact h.1 y H
theorem rJ (H:Hd O w0 w S l): ∃v w',Do P ⟨d,.makeMap t none,ty,pos,af,g⟩ ρ w v w'/\ ∃b,v= .map (some b)/\Hd O w0 w' S (l++[.mp b []]):=by
 refine⟨.map (some w.heap.size),w.alloc (.map #[] 0),?_,w.heap.size,rfl,?_⟩;unfold Do;simp [execOp,run_makeMap];refine H.add (Only.of_below (MxM.sees_alloc w _)) (λ_=>⟨#[],0,?_,rfl,StB_nil⟩) (λb f=>?_) (by simp [Th.blocks]);show(w.heap.push _)[w.heap.size]? =_;simp;obtain rfl:b=w.heap.size:=by simpa [Th.blocks]using f
 refine⟨Nat.le_refl _,?_⟩;show _<(w.heap.push _).size;simp
theorem wH [DecidableEq κ] (H:Hd O w0 w S l) (i:Nat) (hi:l[i]? =some (.mp b (dO K G m))) (M:P.underlying t=some (.map kt et)) (E:P.underlying kt=some K.t) (X:ev ρ x= .map (some b)) (Y:ev ρ y=K.f k) (hz:ev ρ z=G v) (A:mput m k v=some m'):
  ∃w',DoU P ⟨none,.insert t x y z,ty,pos,af,g⟩ ρ w w'/\Hd O w0 w' S (l.set i (.mp b (dO K G m'))):=by
 unfold mput at A;split at A
 ·cases A
 ·rename_i C;obtain rfl:=oI A;have C:m.any (λp=>decide (p.1=k))=false:=(Bool.not_eq_true _).mp C;obtain⟨h,c,B,I,h3⟩: ∃(h:Array MapEntry) (c:Nat),w.heap[b]? =some (.map h c)/\h.toList.map (λe=>(e.key,e.val))=dO K G m/\StB h c:=H.V hi;have hf:=(vG K G k h.toList m 0 I).1 C;have J:=MapKept.heap_set (o':=Obj.map (h.push {key:=K.f k,val:=G v,born:=c}) (c+1)) B;refine⟨{w with heap:=w.heap.setIfInBounds b (.map (h.push {key:=K.f k,val:=G v,born:=c}) (c+1))},?_,?_⟩
  ·unfold DoU;have q:(Instr.mapUpdate t (.map (some b)) (K.f k) (G v)).run P w= .ok () {w with heap:=w.heap.setIfInBounds b (.map (h.push {key:=K.f k,val:=G v,born:=c}) (c+1))}:=by
    simp [Instr.mapUpdate,run_underlying M,MapKept.run_getObj_map B,MapKept.run_checkKey E (K.key k) false 9999,MapKept.run_findKey E hf,MapKept.run_setObj_map _ B,Result.andThen]
   simp [execOp,X,Y,hz,q]
  ·refine H.turn hi ⟨rfl,rfl,rfl,by simp,λj L hn=>?_⟩ (λ_=>⟨_,_,J.1,?_,aJk h3 _ _⟩) (λj L=>?_) (by simp [Th.blocks])
   ·exact J.2 j (by simpa [Th.blocks]using hn)
   ·rw [Array.toList_push,List.map_append,I];simp [dO]
   ·obtain rfl:j=b:=by simpa [Th.blocks]using L
    refine⟨.inl (by simp [Th.blocks]),?_⟩;have:=(Array.getElem?_eq_some_iff.1 B).1;simpa using this
theorem dY [DecidableEq κ] {F:Nat->Prop}{zv:ν}(h:Th.holds F w (.mp b (dO K G m)))(C:P.underlying t=some (.map kt et))(A:P.underlying kt=some K.t)(L:ev ρ x= .map (some b))(M:ev ρ y=K.f k)(X:(zeroValue et).run P w= .ok (G zv) w):
  Do P ⟨d,.lookup t x y false,ty,pos,af,g⟩ ρ w (G (jB m k zv)) w:=by
 obtain⟨E,c,H,I,-⟩:=h;unfold Do;have q:(Instr.lookup t (.map (some b)) (K.f k) false).run P w= .ok (G (jB m k zv)) w:=by
  have J: ∀e,(Instr.checkKey e 10000 kt (K.f k)).run P w= .ok () w:=λe=>MapKept.run_checkKey A (K.key k) e 9999
  unfold jB
  cases hf:m.find? λp=>decide (p.1=k)with
  |none=>
   have Y:m.any (λp=>decide (p.1=k))=false:=by
    rw [List.find?_eq_none]at hf;rw [List.any_eq_false];intro p hp;exact hf p hp
   have B:=(vG K G k E.toList m 0 I).1 Y;simp [Instr.lookup,run_underlying C,MapKept.run_getObj_map H,J,MapKept.run_findKey A B,X,Result.andThen]
  |some p=>
   obtain⟨j,B⟩:=(vG K G k E.toList m 0 I).2 p hf;simp [Instr.lookup,run_underlying C,MapKept.run_getObj_map H,J,MapKept.run_findKey A B,Result.andThen]
 simp [execOp,L,M,q]
end
section
variable {P:Program}{ρ:Env}{w w0:World}{d:Option Tmp}{x y z:Operand}{t kt et ty u:TypeId}{pos:String}{af:Array Edge}{g:Option (Nat×Bool)}{O S:List Nat}{l:List Th}{i b:Nat}{κ ν:Type}{K:Ky κ}{G:ν->Value}{m m':List (κ×ν)}{k:κ}{v:ν}
def slt (s t:Str):Bool:=Go.Op.bytesLess s t
theorem bs_toList (s:Str):(bs s).toList=s:=by
 rw [ByteArray.toList_eq];simp [bs]
theorem Do_lsss {s1 s2:Str}(f:ev ρ x= .string (bs s1))(h:ev ρ y= .string (bs s2)):Do P ⟨d,.binOp .lss t x y u,ty,pos,af,g⟩ ρ w (.bool (slt s1 s2)) w:=by
 unfold Do slt;simp [execOp,f,h,eqGuard,binOp,Op.stringOp,bs_toList]
end
section own
variable {w w':World}{e s n:Nat}{v:Value}{xs:List Value}
def OwO (w:World)(e:TypeId)(s:Nat)(v:Value)(n:Nat)(xs:List Value):Prop:=
 xs.length=n*s/\((v= .slice none 0 0/\n=0)\/ ∃g o cap f,v= .slice (some ⟨g,o,none⟩) n cap/\Blk w g f e/\n<=cap/\cap<=maxLen/\o+cap*s<=f.length/\(f.drop o).take (n*s)=xs)
theorem OwO.lt (h:OwO w e s v n xs): ∀b∈ob v,b<w.heap.size:=by
 rcases h.2 with ⟨rfl,_⟩|⟨g,o,_,_,rfl,p,_⟩
 ·simp [ob,qG]
 ·intro b A;obtain rfl:b=g:=by simpa [ob,qG]using A
  exact p.lt
end own
section rt
variable {α β:Type}{F F':Nat->Prop}{w w':World}
def elH (r:Rt α)(F:Nat->Prop)(w:World)(c:List Value)(b:List Nat)(x:α):Option (List Value)->Prop
 |none=>r.rd F w c b x
 |some c0=>c=c0/\b=[]/\c.length=r.sz/\ ∀v∈c,v.oneCell'=true
abbrev Hol:=List (Nat×List Value)
theorem elH.mono {r:Rt α}{c:List Value}{b:List Nat}{x:α}{o:Option (List Value)}(f:Same F F' w w')(p: ∀k∈b,w'.heap[k]? =w.heap[k]?)(h:elH r F w c b x o):elH r F' w' c b x o:=by
 cases o with
 |none=>exact r.mono f p h
 |some c0=>exact h
end rt
section hd
variable {P:Program}{ρ:Env}{w w0 w1:World}{d:Option Tmp}{x y z:Operand}{t u ty e:TypeId}{pos:String}{af:Array Edge}{g:Option (Nat×Bool)}
variable {v:Value}{b o i n c s m:Nat}{k k':IntKind}{cs xs vs:List Value}{bs:List Nat}{T:TypeId}{O S:List Nat}{l:List Th}{α β:Type}{r:Rp α}{R:Rt α}{D:Hol}{xl yl zl:List α}{a:α}{j q:Int}{F:Nat->Prop}
end hd
section
variable {κ ν:Type} (K:Ky κ)
def pM [DecidableEq κ]:List (κ×ν)->κ->ν->List (κ×ν)
 | [],k,v=>[(k,v)]
 |p::l,k,v=>if p.1=k then(k,v)::l else p::pM l k v
theorem aKt [DecidableEq κ] (k:κ)(v:ν): ∀{l:List (κ×ν)},l.any (λp=>decide (p.1=k))=false->pM l k v=l++[(k,v)]
 | [],_=>rfl
 |p::l,h=>by
  rw [List.any_cons,Bool.or_eq_false_iff]at h;have f: ¬p.1=k:=by simpa using h.1
  rw [pM,if_neg f,aKt k v h.2,List.cons_append]
theorem aHi [inst:DecidableEq κ] (g:ν->Value) (k:κ) (v:ν): ∀(A:List MapEntry) (l:List (κ×ν)) (i:Nat),A.map (λe=>(e.key,e.val))=dO K g l->l.any (λp=>decide (p.1=k))=true->
  ∃j u,Instr.findNow K.t (K.f k) A i=some (some (i+j,u))/\(A[j]?).map (·.key)=some (K.f k)/\(A.modify j λe=>{e with key:=K.f k,val:=g v}).map (λe=>(e.key,e.val))=dO K g (pM l k v)
 | [],[],i,_,h=>by simp at h
 | [],_::_,i,h,_=>by simp [dO]at h
 |_::_,[],i,h,_=>by simp [dO]at h
 |e::A,q::l,i,h,E=>by
  simp only [List.map_cons,dO,List.cons.injEq,Prod.mk.injEq]at h;obtain⟨⟨B,J⟩,H⟩:=h;have I:=K.now k q.1;have hd:(@decide (k=q.1) (K.dec k q.1))=decide (q.1=k):=by
   by_cases c:q.1=k
   ·simp [c]
   ·have c2: ¬k=q.1:=λh=>c h.symm
    simp [c,c2]
  rw [hd]at I;have L:Instr.findNow K.t (K.f k) (e::A) i=if decide (q.1=k)=true then some (some (i,e.val))else Instr.findNow K.t (K.f k) A (i+1):=by
   rw [Instr.findNow,B,I]
   cases decide (q.1=k)<;>rfl
  rw [L]
  by_cases c:q.1=k
  ·refine⟨0,e.val,by simp [c],by simp [B,c],?_⟩;simp only [List.modify_zero_cons,List.map_cons,pM,if_pos c,dO];rw [H]
  ·have C:l.any (λp=>decide (p.1=k))=true:=by
    rw [List.any_cons]at E;simpa [c]using E
   obtain⟨j,u,M,X,Y⟩:=aHi g k v A l (i+1) H C;refine⟨j+1,u,by simp [c,M];omega,by simpa using X,?_⟩;simp only [List.modify_succ_cons,List.map_cons,pM,if_neg c,dO];rw [Y,B,J];rfl
end
section
variable {P:Program}{ρ:Env}{w w0:World}{d:Option Tmp}{x y z:Operand}{t kt et ty:TypeId}{pos:String}{af:Array Edge}{g:Option (Nat×Bool)}{O S:List Nat}{l:List Th}{i b:Nat}{κ ν:Type}{K:Ky κ}{G:ν->Value}{m m':List (κ×ν)}{k:κ}{v:ν}
theorem aNw [DecidableEq κ] (H:Hd O w0 w S l) (i:Nat) (hi:l[i]? =some (.mp b (dO K G m))) (hu:P.underlying t=some (.map kt et)) (L:P.underlying kt=some K.t) (hx:ev ρ x= .map (some b)) (hy:ev ρ y=K.f k) (hz:ev ρ z=G v) (hp:pM m k v=m'):
  ∃w',DoU P ⟨none,.mapUpdate t x y z,ty,pos,af,g⟩ ρ w w'/\Hd O w0 w' S (l.set i (.mp b (dO K G m'))):=by
 subst hp;obtain⟨h,c,A,X,h3⟩: ∃(h:Array MapEntry) (c:Nat),w.heap[b]? =some (.map h c)/\h.toList.map (λe=>(e.key,e.val))=dO K G m/\StB h c:=H.V hi
 cases ha:m.any (λp=>decide (p.1=k))with
 |false=>
  have M:=(vG K G k h.toList m 0 X).1 ha;have C:=MapKept.heap_set (o':=Obj.map (h.push {key:=K.f k,val:=G v,born:=c}) (c+1)) A;refine⟨{w with heap:=w.heap.setIfInBounds b (.map (h.push {key:=K.f k,val:=G v,born:=c}) (c+1))},?_,?_⟩
  ·unfold DoU;have q:(Instr.mapUpdate t (.map (some b)) (K.f k) (G v)).run P w= .ok () {w with heap:=w.heap.setIfInBounds b (.map (h.push {key:=K.f k,val:=G v,born:=c}) (c+1))}:=by
    simp [Instr.mapUpdate,run_underlying hu,MapKept.run_getObj_map A,MapKept.run_checkKey L (K.key k) false 9999,MapKept.run_findKey L M,MapKept.run_setObj_map _ A,Result.andThen]
   simp [execOp,hx,hy,hz,q]
  ·refine H.turn hi ⟨rfl,rfl,rfl,by simp,λj E Y=>?_⟩ (λ_=>⟨_,_,C.1,?_,aJk h3 _ _⟩) (λj E=>?_) (by simp [Th.blocks])
   ·exact C.2 j (by simpa [Th.blocks]using Y)
   ·rw [Array.toList_push,List.map_append,X,aKt k v ha];simp [dO]
   ·obtain rfl:j=b:=by simpa [Th.blocks]using E
    refine⟨.inl (by simp [Th.blocks]),?_⟩;have:=(Array.getElem?_eq_some_iff.1 A).1;simpa using this
 |true=>
  obtain⟨j,u,M,I,J⟩:=aHi K G k v h.toList m 0 X ha;rw [Nat.zero_add]at M;have B:((h[j]?).map (·.key)).getD (K.f k)=K.f k:=by
   have:(h[j]?).map (·.key)=some (K.f k):=by simpa using I
   rw [this];rfl
  have C:=MapKept.heap_set (o':=Obj.map (h.modify j λe=>{e with key:=K.f k,val:=G v}) c) A;refine⟨{w with heap:=w.heap.setIfInBounds b (.map (h.modify j λe=>{e with key:=K.f k,val:=G v}) c)},?_,?_⟩
  ·unfold DoU;have q:(Instr.mapUpdate t (.map (some b)) (K.f k) (G v)).run P w= .ok () {w with heap:=w.heap.setIfInBounds b (.map (h.modify j λe=>{e with key:=K.f k,val:=G v}) c)}:=by
    simp [Instr.mapUpdate,run_underlying hu,MapKept.run_getObj_map A,MapKept.run_checkKey L (K.key k) false 9999,MapKept.run_findKey L M,B,MapKept.run_keyThatStays (K.key k),MapKept.run_setObj_map _ A,Result.andThen]
   simp [execOp,hx,hy,hz,q]
  ·refine H.turn hi ⟨rfl,rfl,rfl,by simp,λj E Y=>?_⟩ (λ_=>⟨_,_,C.1,?_,aXk h3 _ _ λ_=>rfl⟩) (λj E=>?_) (by simp [Th.blocks])
   ·exact C.2 j (by simpa [Th.blocks]using Y)
   ·rw [Array.toList_modify];exact J
   ·obtain rfl:j=b:=by simpa [Th.blocks]using E
    refine⟨.inl (by simp [Th.blocks]),?_⟩;have:=(Array.getElem?_eq_some_iff.1 A).1;simpa using this
end
end Go.Lf
namespace Go.Mx
open Go.RowKit Go.OB Go.Lf
end Go.Mx
namespace Go.MxM
open Go.RowKit Go.OB Go.Lf
end Go.MxM
