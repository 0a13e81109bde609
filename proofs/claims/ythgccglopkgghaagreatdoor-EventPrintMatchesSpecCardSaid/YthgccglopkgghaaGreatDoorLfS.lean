/- Laws that the claim stands on; no condition beyond those stated. -/
import Derived.Test.YthgccglopkgghaaGreatDoorLfR
import Derived.Defers
import Derived.Recover
import Derived.MapKept
namespace Go.Lf
open Go.RowKit Go.OB
structure pJ (N:Nat)(a:Act)(ρ:Env)(ds:List Deferred):Prop where
 size:a.tmps.size=N
 dfr:a.defers=ds
 get: ∀i,a.tmps.getD i undef=ρ i
theorem pJ.fits {N:Nat}{a:Act}{ρ:Env}{ds:List Deferred}(h:pJ N a ρ ds):Fits N {a with defers:=[]} ρ:=⟨h.size,rfl,h.get⟩
theorem pJ.eval {N:Nat}{a:Act}{ρ:Env}{ds:List Deferred}(h:pJ N a ρ ds):a.eval=ev ρ:=by
 have:=h.fits.eval;rw [<-this];funext x;cases x<;>rfl
theorem pJ.wanted {N:Nat}{a:Act}{ρ:Env}{ds:List Deferred}(h:pJ N a ρ ds)(ops:Array Oper)(o:Oper):Region.wanted o (yielded ops a.tmps)=fF N ops ρ o:=h.fits.wanted ops o
theorem pJ.put {N:Nat}{a:Act}{ρ:Env}{ds:List Deferred}(h:pJ N a ρ ds){d:Option Tmp}(f:aGc N d=true)(v:Value):pJ N (a.put d v) (updo ρ d v) ds:=by
 have q:=h.fits.put f v
 cases d with
 |none=>exact h
 |some d=>exact⟨q.size,h.dfr,q.get⟩
def liftD (N:Nat)(Q:Exit->List Deferred->Env->World->Prop):Exit->Act->World->Prop:=λe a w=> ∃ρ ds,pJ N a ρ ds/\Q e ds ρ w
def WPD (P:Program)(N:Nat)(ds:List Deferred)(c:Code)(Q:Exit->List Deferred->Env->World->Prop)(ρ:Env)(w:World):Prop:= ∀a,pJ N a ρ ds->c.wp P (liftD N Q) a w
def RLD (P:Program)(N:Nat)(ops:Array Oper)(ds:List Deferred)(Q:Exit->List Deferred->Env->World->Prop)(l:List Oper)(ρ:Env)(w:World):Prop:= ∀a,pJ N a ρ ds->wpList P ops (liftD N Q) l a w
def thenD (K:List Deferred->Env->World->Prop)(Q:Exit->List Deferred->Env->World->Prop):Exit->List Deferred->Env->World->Prop
 | .normal,ds,ρ,w=>K ds ρ w
 |e,ds,ρ,w=>Q e ds ρ w
section
variable {P:Program}{N:Nat}{Q:Exit->List Deferred->Env->World->Prop}{ρ:Env}{w w':World}{ds:List Deferred}{ops:Array Oper}{o:Oper}{rest:List Oper}{v:Value}{d:Nat}{op:Op}{ty:TypeId}{pos:String}{af:Array Edge}{g:Option (Nat×Bool)}
theorem aAe {x y:Code}(h:WPD P N ds x (thenD (λf p w'=>WPD P N f y Q p w') Q) ρ w):WPD P N ds (.seq x y) Q ρ w:=by
 intro a C;refine wp_seq (wp_mono (h a C) ?_);rintro e E w' ⟨p,f,A,B⟩
 cases e<;>first |exact B E A|exact⟨p,f,A,B⟩
theorem WPD_ret (h:Q .ret ds ρ w):WPD P N ds .ret Q ρ w:=λ_ f=>wp_ret ⟨ρ,ds,f,h⟩
theorem qL {id:Nat}{l:List Oper}(h:RLD P N l.toArray ds Q l ρ w):WPD P N ds (.region id l.toArray false) Q ρ w:=λa f=>wp_region_lit (h a f)
theorem aAj (h:Q .normal ds ρ w):RLD P N ops ds Q [] ρ w:=λ_ f=>wpList_nil ⟨ρ,ds,f,h⟩
theorem aEk (p:fF N ops ρ ⟨some d,op,ty,pos,af,g⟩=true)(A:Nat.blt d N=true)(h:Do P ⟨some d,op,ty,pos,af,g⟩ ρ w v w')(k:RLD P N ops ds Q rest (upd ρ d v) w'):RLD P N ops ds Q (⟨some d,op,ty,pos,af,g⟩::rest) ρ w:=by
 intro a f;unfold wpList;rw [f.wanted,p,if_pos rfl];refine .inl ?_;unfold Oper.wp;rw [f.eval,show(execOp (ev ρ) _).run P w=_ from h];exact k _ (f.put (xE A) v)
theorem RLD_ex {R:Value->World->Prop}(f:fF N ops ρ ⟨some d,op,ty,pos,af,g⟩=true)(p:Nat.blt d N=true)(h: ∃v w',Do P ⟨some d,op,ty,pos,af,g⟩ ρ w v w'/\R v w')
    (k: ∀v w',R v w'->RLD P N ops ds Q rest (upd ρ d v) w'):RLD P N ops ds Q (⟨some d,op,ty,pos,af,g⟩::rest) ρ w:=by
 obtain⟨v,w',A,B⟩:=h;exact aEk f p A (k v w' B)
theorem RLD_exU {R:World->Prop}(p:fF N ops ρ ⟨none,op,ty,pos,af,g⟩=true)(h: ∃w',DoU P ⟨none,op,ty,pos,af,g⟩ ρ w w'/\R w')(k: ∀w',R w'->RLD P N ops ds Q rest ρ w'):RLD P N ops ds Q (⟨none,op,ty,pos,af,g⟩::rest) ρ w:=by
 obtain⟨w',A,B⟩:=h;intro a f;unfold wpList;rw [f.wanted,p,if_pos rfl];refine .inl ?_;unfold Oper.wp;rw [f.eval,show(execOp (ev ρ) _).run P w=_ from A];exact k _ B _ f
theorem RLD_defer {x:Deferred}(p:fF N ops ρ ⟨none,op,ty,pos,af,g⟩=true)(h:(execOp (ev ρ) ⟨none,op,ty,pos,af,g⟩).run P w= .ok (.defer x) w)(k:RLD P N ops (x::ds) Q rest ρ w):RLD P N ops ds Q (⟨none,op,ty,pos,af,g⟩::rest) ρ w:=by
 intro a f;unfold wpList;rw [f.wanted,p,if_pos rfl];refine .inl ?_;unfold Oper.wp;rw [f.eval,h];exact k _ ⟨f.size,congrArg (x:: ·) f.dfr,f.get⟩
def postD (P:Program)(fn:Func)(R:Ending->World->Prop):Exit->List Deferred->Env->World->Prop
 | .normal,ds,ρ,w| .ret,ds,ρ,w=> ∀f:Array Value,(∀i,f.getD i undef=ρ i)->Leaves P fn f R ds .returning w
 | .panic h,ds,ρ,w=> ∀f:Array Value,(∀i,f.getD i undef=ρ i)->Leaves P fn f R ds (.panicking h) w
 |_,_,_,_=>False
theorem aFc {f:FuncId}{fn:Func}{c:Code}{args:List Value}{R:Ending->World->Prop} (N:Nat)
  (p:P.funcs[f]? =some fn) (E:fn.body=some c) (G:fn.ntmps=N) (C:Nat.ble args.length N=true)
  (h:WPD P N [] c (postD P fn R) (aAb args) w):Calls P f args.toArray w R:=by
 refine calls_of_wp_defers p E ?_;have C:=Nat.le_of_ble_eq_true C;subst G;have A:pJ fn.ntmps {tmps:=args.toArray++Array.replicate (fn.ntmps-args.toArray.size) undef,defers:=[]} (aAb args) []:=by
  refine⟨by simp;omega,rfl,λi=>?_⟩;rw [<-wC];simp only [Array.getD_eq_getD_getElem?,Array.getElem?_append,List.getD_eq_getElem?_getD,List.size_toArray,Array.getElem?_replicate,List.getElem?_toArray];split
  ·rfl
  ·rename_i _;rw [List.getElem?_eq_none (by omega)];split<;>rfl
 refine wp_mono (h _ A) ?_;rintro e a w ⟨ρ,ds,p,B⟩
 cases e<;>simp only [postD]at B<;>simp only [bodyPostD]
 case normal=>rw [p.dfr];exact B _ p.get
 case ret=>rw [p.dfr];exact B _ p.get
 case panic ch=>rw [p.dfr];exact B _ p.get
theorem aAq {fn:Func}{f:Array Value}{R:Ending->World->Prop}{rs:Array ResultVar}(p:fn.results=rs)(A: ∀i,f.getD i undef=ρ i)(h:mO P rs R .ret ρ w):Leaves P fn f R [] .returning w:=by
 subst p;obtain⟨v,B,C⟩:=h;refine⟨v,?_,C⟩;rw [<-B];congr 1;unfold results dY;simp only [A];rfl
end
section
variable {P:Program}{ρ:Env}{w:World}{d:Option Tmp}{x:Operand}{ty:TypeId}{pos:String}{af:Array Edge}{g:Option (Nat×Bool)}
theorem DoC_bnd {f:FuncId}{args:Array Operand}{h:Array TypeId}{us first:List Value}(B:Go.OB.Enters P f)(C:ev ρ x= .func (.func f) first.toArray #[])(E:args.toList.map (ev ρ)=us):
  DoC P ⟨d,.call {callee:= .value x,args:=args,argTypes:=h},ty,pos,af,g⟩ ρ w f (first++us).toArray:=by
 obtain⟨fn,G,_,H⟩:=B;have p: ¬fn.body=none:=by cases hb:fn.body<;>simp_all
 have A: ¬fn.name= "runtime.NumGoroutine" :=by simpa using H
 have I: ∀as,(callFunc f as).run P w= .ok (.enter f as) w:=by
  intro as;simp [callFunc,Sem.run,G,p,A,program]
 unfold DoC;have e:args.map (ev ρ)=us.toArray:=by rw [<-E];apply Array.ext';simp
 simp only [execOp,resolve,C,Deferred.ofValue];rw [e];simp [invoke,I]
theorem run_defer {f:FuncId}{args:Array Operand}{h:Array TypeId}{us cap:List Value}(p:ev ρ x= .func (.func f) #[] cap.toArray)(A:args.toList.map (ev ρ)=us):
    (execOp (ev ρ) ⟨d,.defer {callee:= .value x,args:=args,argTypes:=h},ty,pos,af,g⟩).run P w= .ok (.defer {target:= .fn (.func f) cap.toArray,args:=us.toArray}) w:=by
 have e:args.map (ev ρ)=us.toArray:=by rw [<-A];apply Array.ext';simp
 simp only [execOp,resolve,p,Deferred.ofValue];rw [e];simp
end
section
variable {P:Program}{ρ:Env}{w:World}{R:Ending->World->Prop}{rs:Array ResultVar}{t1 t2 t3 t4 t5 t6:Tmp}{v1 v2 v3 v4 v5 v6:Value}
theorem uG (f:rs= #[.tmp t1,.tmp t2,.tmp t3,.tmp t4,.tmp t5,.tmp t6])(p:ρ t1=v1)(A:ρ t2=v2)(B:ρ t3=v3)(C:ρ t4=v4)(E:ρ t5=v5)(G:ρ t6=v6)(h:R (.returned (.tuple #[v1,v2,v3,v4,v5,v6])) w):mO P rs R .ret ρ w:=by
 subst f p A B C E G;exact⟨_,by simp [dY],h⟩
end
section
variable {P:Program}{ops:Array Oper}{a:Act}{w:World}
theorem upon_q {o:Oper}{K K':Act->World->Prop}{Q Q':Exit->Act->World->Prop}(hk: ∀a w,K a w->K' a w)(hq: ∀e a w,e≠ .normal->Q e a w->Q' e a w)(h:o.wp P a w K Q):o.wp P a w K' Q':=by
  unfold Oper.wp Oper.upon at *
  split at h<;>first
    | exact hk _ _ h
    | exact hq _ _ _ (by simp) h
    | exact h.elim
    | (refine Calls.mono h λe w' hr=>?_
       cases e with
       | returned v=>exact hk _ _ hr
       | panicked _=>exact hq _ _ _ (by simp) hr
       | outgrown=>obtain ⟨a0,w0,h0⟩:=hr; exact ⟨a0,w0,hq _ _ _ (by simp) h0⟩)
    | (intro fr cs; obtain ⟨v,w'',hR,hs⟩:=h fr cs; exact ⟨v,w'',hk _ _ hR,hs⟩)
theorem uQ {Q:Exit->Act->World->Prop}: ∀(l:List Oper) (k:Nat) (a:Act) (w:World),wpList P ops (λe a w=>match e with | .normal=>wpList P ops Q (l.drop k) a w|e=>Q e a w) (l.take k) a w->wpList P ops Q l a w
 |l,0,a,w,h=>by simpa [wpList]using h
 | [],k+1,a,w,h=>by simpa [wpList]using h
 |o::l,k+1,a,w,h=>by
  rw [List.take_succ_cons,wpList]at h;rw [wpList];simp only [List.drop_succ_cons]at h;split at h
  ·rename_i f;rw [if_pos f];rcases h with h|⟨p,a0,w0,A⟩
   ·exact .inl (upon_q (λa w h=>uQ l k a w h) (λe a w B h=>by cases e<;>first |exact h|exact absurd rfl B) h)
   ·exact .inr ⟨p,a0,w0,A⟩
  ·rename_i f;rw [if_neg f];exact uQ l k _ _ h
theorem RL_cutS {N:Nat}{Q:Exit->Env->World->Prop}{ρ:Env}{l:List Oper} (k:Nat) (W:List Nat) (S:List (Nat×Value)) (I:World->Prop)
  (h:RL P N ops (aV (λf w'=>Fr W ρ f/\Sl f S/\I w') Q) (l.take k) ρ w) (H: ∀p w1,I w1->RL P N ops Q (l.drop k) (over ρ p W S) w1):RL P N ops Q l ρ w:=by
 intro a J;refine uQ l k a w ?_;have mono: ∀(l1:List Oper) (a:Act) (w:World),wpList P ops (tH N (aV (λf w'=>Fr W ρ f/\Sl f S/\I w') Q)) l1 a w->wpList P ops (λe a w=>match e with | .normal=>wpList P ops (tH N Q) (l.drop k) a w|e=>tH N Q e a w) l1 a w:=by
  have A: ∀a w,tH N (aV (λf w'=>Fr W ρ f/\Sl f S/\I w') Q) .normal a w->wpList P ops (tH N Q) (l.drop k) a w:=by
   rintro a w ⟨f,K,B,C,L⟩;have q:=H f w L;rw [aDt B C]at q;exact q a K
  intro l1
  induction l1 with
  |nil=>intro a w h;rw [wpList]at h⊢;exact A a w h
  |cons o l1 G=>
   intro a w h;rw [wpList]at h⊢;split at h
   ·rename_i E;rw [if_pos E];rcases h with h|⟨B,a0,w0,C⟩
    ·exact .inl (upon_q G (λe a w M h=>by cases e<;>first |exact h|exact absurd rfl M) h)
    ·exact .inr ⟨B,a0,w0,C⟩
   ·rename_i E;rw [if_neg E];exact G _ _ h
 exact mono _ a w (h a J)
end
theorem meet {W:List Nat}{ρ f:Env}{B:Prop}(h:B)(p:Fr W ρ f:=by repeat' (first |with_reducible exact aAg|refine aIu rfl ?_|refine aEq rfl rfl ?_)):Fr W ρ f/\B:=⟨p,h⟩
theorem aJo {α:Type}{a b:α}(h:some a=some b):a=b:=oI h
theorem tC {P:Program}{o:Oper}{ρ:Env}{w w':World}{b c:Bool}(h:Do P o ρ w (.bool b) w')(e:b=c):Do P o ρ w (.bool c) w':=e▸h
section
variable {P:Program}{N:Nat}{ops:Array Oper}{Q:Exit->Env->World->Prop}{rest:List Oper}{ρ:Env}{w w':World}{v:Value}{d:Nat}{op:Op}{ty:TypeId}{pos:String}{af:Array Edge}{g:Option (Nat×Bool)}
theorem zM (h:Do P ⟨some d,op,ty,pos,af,g⟩ ρ w v w')(k:RL P N ops Q rest (upd ρ d v) w')(f:fF N ops ρ ⟨some d,op,ty,pos,af,g⟩=true:=by exact rfl)(p:Nat.blt d N=true:=by exact rfl):RL P N ops Q (⟨some d,op,ty,pos,af,g⟩::rest) ρ w:=yM f p h k
theorem zN (k:RL P N ops Q rest (upd ρ d undef) w)(f:fF N ops ρ ⟨some d,op,ty,pos,af,g⟩=false:=by exact rfl)(h:Nat.blt d N=true:=by exact rfl):RL P N ops Q (⟨some d,op,ty,pos,af,g⟩::rest) ρ w:=aIg f h k
theorem zB {x:Operand}(v:Value)(k:RL P N ops Q rest (upd ρ d v) w)(h:ev ρ x=v:=by exact rfl)(f:fF N ops ρ ⟨some d,.move x,ty,pos,af,g⟩=true:=by exact rfl)(p:Nat.blt d N=true:=by exact rfl):RL P N ops Q (⟨some d,.move x,ty,pos,af,g⟩::rest) ρ w:=yM f p (xA h) k
theorem zC {x:Operand}(v:Value)(k:RL P N ops Q rest (upd ρ d v) w)(h:ev ρ x=v:=by exact rfl)(f:fF N ops ρ ⟨some d,.assign x,ty,pos,af,g⟩=true:=by exact rfl)(p:Nat.blt d N=true:=by exact rfl):RL P N ops Q (⟨some d,.assign x,ty,pos,af,g⟩::rest) ρ w:=yM f p (yS h) k
end
structure Ky (κ:Type) where
 f:κ->Value
 t:TypeDesc
 key: ∀a,MapKept.IsKey t (f a)
 dec:DecidableEq κ
 now: ∀a b,Instr.sameNow t (f a) (f b)=some (@decide (a=b) (dec a b))
section
variable {P:Program}{N:Nat}{ops:Array Oper}{Q:Exit->Env->World->Prop}{rest:List Oper}{ρ:Env}{w:World}{d:Nat}{ty:TypeId}{pos:String}{af:Array Edge}{g:Option (Nat×Bool)}{b:Bool}{x:Operand}{y z:Code}
theorem WP_ifF (c:b=false)(k:WP P N z Q ρ w)(f:ev ρ x= .bool b:=by exact rfl):WP P N (.cond x y z) Q ρ w:=WP_iff (f.trans (congrArg Value.bool c)) k
theorem WP_ifT (c:b=true)(k:WP P N y Q ρ w)(f:ev ρ x= .bool b:=by exact rfl):WP P N (.cond x y z) Q ρ w:=WP_ift (f.trans (congrArg Value.bool c)) k
end
end Go.Lf
namespace Go.Mx
open Go.RowKit Go.OB Go.Lf
end Go.Mx
namespace Go.MxM
open Go.RowKit Go.OB Go.Lf
end Go.MxM
namespace Go.Lf
open Go.RowKit Go.OB
section own
variable {w w':World}{e s n:Nat}{v:Value}{xs:List Value}
def OwO (w:World)(e:TypeId)(s:Nat)(v:Value)(n:Nat)(xs:List Value):Prop:=
 xs.length=n*s/\((v= .slice none 0 0/\n=0)\/ ∃g o cap f,v= .slice (some ⟨g,o,none⟩) n cap/\Blk w g f e/\n<=cap/\cap<=maxLen/\o+cap*s<=f.length/\(f.drop o).take (n*s)=xs)
theorem OwO.same (h:OwO w e s v n xs)(p: ∀b∈ob v,w'.heap[b]? =w.heap[b]?):OwO w' e s v n xs:=by
 refine⟨h.1,h.2.imp id ?_⟩;rintro⟨g,o,cap,f,rfl,A,B⟩;exact⟨g,o,cap,f,rfl,wK A (p g (by simp [ob,jY])),B⟩
theorem OwO.lt (h:OwO w e s v n xs): ∀b∈ob v,b<w.heap.size:=by
 rcases h.2 with ⟨rfl,_⟩|⟨g,o,_,_,rfl,p,_⟩
 ·simp [ob,jY]
 ·intro b A;obtain rfl:b=g:=by simpa [ob,jY]using A
  exact p.lt
end own
section rt
variable {α β:Type}{F F':Nat->Prop}{w w':World}
def elH (r:Rt α)(F:Nat->Prop)(w:World)(c:List Value)(b:List Nat)(x:α):Option (List Value)->Prop
 |none=>r.rd F w c b x
 |some c0=>c=c0/\b=[]/\c.length=r.sz/\ ∀v∈c,v.oneCell'=true
abbrev Hol:=List (Nat×List Value)
theorem elH.mono {r:Rt α}{c:List Value}{b:List Nat}{x:α}{o:Option (List Value)}(f:Same F F' w w')(p: ∀k∈b,w'.heap[k]? =w.heap[k]?)(h:elH r F w c b x o):elH r F' w' c b x o:=by
 cases o with
 |none=>exact r.mono f p h
 |some c0=>exact h
end rt
section hd
variable {P:Program}{ρ:Env}{w w0 w1:World}{d:Option Tmp}{x y z:Operand}{t u ty e:TypeId}{pos:String}{af:Array Edge}{g:Option (Nat×Bool)}
variable {v:Value}{b o i n c s m:Nat}{k k':IntKind}{cs xs vs:List Value}{bs:List Nat}{T:TypeId}{O S:List Nat}{l:List Th}{α β:Type}{r:Rp α}{R:Rt α}{D:Hol}{xl yl zl:List α}{a:α}{j q:Int}{F:Nat->Prop}
end hd
end Go.Lf
