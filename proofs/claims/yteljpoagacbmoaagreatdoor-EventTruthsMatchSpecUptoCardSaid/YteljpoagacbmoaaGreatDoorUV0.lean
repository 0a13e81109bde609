/- Walks that the claim stands on; no condition beyond those stated. -/
import Derived.Test.YteljpoagacbmoaaGreatDoorUP
import Derived.Test.YteljpoagacbmoaaGreatDoorXVq
import Derived.Test.YteljpoagacbmoaaGreatDoorXVr
namespace Go.Proofs.YteljpoagacbmoaaGreatDoor.L
open Go.RowKit Go.OB Go.Lf
set_option maxRecDepth 100000
set_option maxHeartbeats 4000000
abbrev vb:=Value.bool
theorem T1:True:=trivial
abbrev cE (c:Cond):Cond:=Cond.mk c.Kind c.Name c.Other c.Op c.N c.Frames c.Kids
theorem Z {α:Sort _}{a:α}:a=a:=rfl
variable {O S:List Nat}{w:World}
abbrev En (f:FuncId):Prop:=Go.OB.Enters Tryz.prog f
theorem CW {P:Program}{f:FuncId}{fn:Func}{c:Code}{args:List Value}{w:World}{R:Ending->World->Prop}(N:Nat)(hf:P.funcs[f]? =some fn)(h:WP P N c (wS P fn.results R) (aNd args) w)(hb:fn.body=some c:=by exact rfl)(hN:fn.ntmps=N:=by exact rfl)(hl:Nat.ble args.length N=true:=by exact rfl):Calls P f args.toArray w R:=tX N hf hb hN hl h
theorem mt {W:List Nat}{ρ ρ':Env}{G:Type}{S:G->List (Nat×Value)}{B:G->Prop}(g:G)(h:B g)(hs:Sl ρ' (S g):=by repeat (first |exact yB|refine zS rfl ?_))(hf:Fr W ρ ρ':=by repeat' (first |with_reducible exact aIl|refine aYn rfl ?_|refine aQu rfl rfl ?_)):Fr W ρ ρ'/\ ∃g,Sl ρ' (S g)/\B g:=⟨hf,g,hs,h⟩
theorem ml {W:List Nat}{ρ ρ':Env}{G:Type}{S:G->List (Nat×Value)}{B C:G->Prop}{μ:G->Nat}{n:Nat}(g:G)(h:B g)(c:C g)(hs:Sl ρ' (S g):=by repeat (first |exact yB|refine zS rfl ?_))(hn:μ g<n:=by exact Nat.lt_succ_self _)(hf:Fr W ρ ρ':=by repeat' (first |with_reducible exact aIl|refine aYn rfl ?_|refine aQu rfl rfl ?_)):Fr W ρ ρ'/\ ∃g,Sl ρ' (S g)/\(B g/\C g)/\μ g<n:=⟨hf,g,hs,⟨h,c⟩,hn⟩
def rg:List Nat->List Nat
 |a::n::l=>List.range' a n++rg l
 |_=>[]
theorem lpb {γ β:Type}{B body:(γ->Option β)->γ->Option β}{n:Nat}{g:γ}{r:β}(e:B=body)(h:fH B n g=some r): ∃m,n=m+1/\body (fH B m) g=some r:=by
 obtain⟨m,a,b⟩:=loopN_pos h;subst e;exact⟨m,a,b⟩
section
variable {P:Program}{N:Nat}{ops:Array Oper}{Q Q':Exit->Env->World->Prop}{rest:List Oper}{ρ:Env}{w:World}{d:Nat}{op:Op}{ty:TypeId}{pos:String}{af:Array Edge}{gd:Option (Nat×Bool)}
theorem RLb {β:Type}{b:Bool}{k:Bool->Option β}{r:β}(a:gK b k=some r)(hd:Do P ⟨some d,op,ty,pos,af,gd⟩ ρ w (vb b) w)(n: ∀x,k x=some r->RL P N ops Q rest (upd ρ d (vb x)) w)(hw:dD N ops ρ ⟨some d,op,ty,pos,af,gd⟩=true:=by exact rfl)(c:Nat.blt d N=true:=by exact rfl):RL P N ops Q (⟨some d,op,ty,pos,af,gd⟩::rest) ρ w:=kN hw c hd (n b a)
theorem RLi {β:Type}{b:Int}{kk:IntKind}{k:Int->Option β}{r:β}(a:gK b k=some r)(hd:Do P ⟨some d,op,ty,pos,af,gd⟩ ρ w (.int kk b) w)(n: ∀x,k x=some r->RL P N ops Q rest (upd ρ d (.int kk x)) w)(hw:dD N ops ρ ⟨some d,op,ty,pos,af,gd⟩=true:=by exact rfl)(c:Nat.blt d N=true:=by exact rfl):RL P N ops Q (⟨some d,op,ty,pos,af,gd⟩::rest) ρ w:=kN hw c hd (n b a)
theorem WI {β:Type}{b:Bool}{x y:Option β}{r:β}{c:Operand}{s t:Code}(a:gQ b x y=some r)(hc:ev ρ c=vb b)(ht:x=some r->WP P N s Q ρ w)(hf:y=some r->WP P N t Q ρ w):WP P N (.cond c s t) Q ρ w:=aRd hc (λc=>ht (wH c a)) (λc=>hf (wG c a))
theorem RI {β:Type}{b:Bool}{x y:Option β}{r:β}{z:Operand}(a:gQ b x y=some r)(hx:ev ρ z=vb b)(ht:x=some r->RL P N ops Q rest (upd ρ d (vb true)) w)(hf:y=some r->RL P N ops Q rest (upd ρ d (vb false)) w)(hw:dD N ops ρ ⟨some d,.move z,ty,pos,af,gd⟩=true:=by exact rfl)(e:Nat.blt d N=true:=by exact rfl):RL P N ops Q (⟨some d,.move z,ty,pos,af,gd⟩::rest) ρ w:=RL_splitb hw e hx (λc=>ht (wH c a)) (λc=>hf (wG c a))
theorem RC {f:FuncId}{args:Array Operand}{at_:Array TypeId}{vs:List Value}{v:Value}{O c S:List Nat}{b:World}{l:List Th}(he:Go.OB.Enters P f)(hc:Calls P f vs.toArray w λe a=>e= .returned v/\Hd c w a [] [])(H:Hd O b w S l)(k: ∀a,Hd O b a S l->RL P N ops Q rest (upd ρ d v) a)(ha:args.toList.map (ev ρ)=vs:=by exact rfl)(hw:dD N ops ρ ⟨some d,.call {callee:= .value (.func f),args:=args,argTypes:=at_},ty,pos,af,gd⟩=true:=by exact rfl)(h:Nat.blt d N=true:=by exact rfl):RL P N ops Q (⟨some d,.call {callee:= .value (.func f),args:=args,argTypes:=at_},ty,pos,af,gd⟩::rest) ρ w:=by
 refine yE hw h (zU he ha) hc ?_;rintro _ a ⟨rfl,G⟩;exact⟨_,rfl,k _ (H.step G.only)⟩
end
section
variable {P:Program}{N:Nat}{ops:Array Oper}{Q Q':Exit->Env->World->Prop}{rest:List Oper}{ρ:Env}{w:World}{d:Nat}{t u ty:TypeId}{x y:Operand}{pos:String}{af:Array Edge}{g:Option (Nat×Bool)}
def KK (P:Program)(N:Nat)(y:Code)(Q:Exit->Env->World->Prop):Env->World->Prop:=WP P N y Q
theorem SQ {x y:Code}(h:WP P N x (rY (KK P N y Q) Q) ρ w):WP P N (.seq x y) Q ρ w:=aYi h λ_ _ h=>h
theorem SR {id:Nat}{l:List Oper}{y:Code}(h:RL P N l.toArray (rY (KK P N y Q) Q) l ρ w):WP P N (.seq (.region id l.toArray false) y) Q ρ w:=SQ (zD h)
theorem RM {y:Code}(n:WP P N y Q ρ w):RL P N ops (rY (KK P N y Q) Q') [] ρ w:=yX (zF n)
theorem WZ {y:Code}(n:WP P N y Q ρ w):WP P N .skip (rY (KK P N y Q) Q') ρ w:=yV (zF n)
theorem KN {y:Code}(n:WP P N y Q ρ w):KK P N y Q ρ w:=n
theorem jn {K:Env->World->Prop}(n:K ρ w):RL P N ops (rY K Q') [] ρ w:=yX (zF n)
theorem js {K:Env->World->Prop}(n:K ρ w):WP P N .skip (rY K Q') ρ w:=yV (zF n)
theorem dG {a b:Int}{kk:IntKind}{β:Type}{k:Bool->Option β}{r:β}(c:gK (decide (a<b)) k=some r)(n: ∀x,k x=some r->RL P N ops Q rest (upd ρ d (vb x)) w)(hx:ev ρ x= .int kk a:=by exact rfl)(hy:ev ρ y= .int kk b:=by exact rfl)(hw:dD N ops ρ ⟨some d,.binOp .lss t x y u,ty,pos,af,g⟩=true:=by exact rfl)(e:Nat.blt d N=true:=by exact rfl):RL P N ops Q (⟨some d,.binOp .lss t x y u,ty,pos,af,g⟩::rest) ρ w:=RLb c (aRv hx hy) n hw e
theorem aDu {a b:Int}{kk:IntKind}{β:Type}{k:Bool->Option β}{r:β}(c:gK (decide (a<=b)) k=some r)(n: ∀x,k x=some r->RL P N ops Q rest (upd ρ d (vb x)) w)(hx:ev ρ x= .int kk a:=by exact rfl)(hy:ev ρ y= .int kk b:=by exact rfl)(hw:dD N ops ρ ⟨some d,.binOp .leq t x y u,ty,pos,af,g⟩=true:=by exact rfl)(e:Nat.blt d N=true:=by exact rfl):RL P N ops Q (⟨some d,.binOp .leq t x y u,ty,pos,af,g⟩::rest) ρ w:=RLb c (aPq hx hy) n hw e
theorem jX {a b:Int}{kk:IntKind}{β:Type}{k:Bool->Option β}{r:β}(c:gK (decide (b<a)) k=some r)(n: ∀x,k x=some r->RL P N ops Q rest (upd ρ d (vb x)) w)(hx:ev ρ x= .int kk a:=by exact rfl)(hy:ev ρ y= .int kk b:=by exact rfl)(hw:dD N ops ρ ⟨some d,.binOp .gtr t x y u,ty,pos,af,g⟩=true:=by exact rfl)(e:Nat.blt d N=true:=by exact rfl):RL P N ops Q (⟨some d,.binOp .gtr t x y u,ty,pos,af,g⟩::rest) ρ w:=RLb c (uX hx hy) n hw e
theorem wV {a b:Int}{kk:IntKind}{β:Type}{k:Bool->Option β}{r:β}(c:gK (decide (b<=a)) k=some r)(n: ∀x,k x=some r->RL P N ops Q rest (upd ρ d (vb x)) w)(hx:ev ρ x= .int kk a:=by exact rfl)(hy:ev ρ y= .int kk b:=by exact rfl)(hw:dD N ops ρ ⟨some d,.binOp .geq t x y u,ty,pos,af,g⟩=true:=by exact rfl)(e:Nat.blt d N=true:=by exact rfl):RL P N ops Q (⟨some d,.binOp .geq t x y u,ty,pos,af,g⟩::rest) ρ w:=RLb c (aGb hx hy) n hw e
theorem fP {a b:Int}{kk:IntKind}{β:Type}{k:Bool->Option β}{r:β}(c:gK (decide (a=b)) k=some r)(n: ∀x,k x=some r->RL P N ops Q rest (upd ρ d (vb x)) w)(hx:ev ρ x= .int kk a:=by exact rfl)(hy:ev ρ y= .int kk b:=by exact rfl)(hw:dD N ops ρ ⟨some d,.binOp .eql t x y u,ty,pos,af,g⟩=true:=by exact rfl)(e:Nat.blt d N=true:=by exact rfl):RL P N ops Q (⟨some d,.binOp .eql t x y u,ty,pos,af,g⟩::rest) ρ w:=RLb c (aGt hx hy) n hw e
theorem kM {a b:Int}{kk:IntKind}{β:Type}{k:Bool->Option β}{r:β}(c:gK (decide (a≠b)) k=some r)(n: ∀x,k x=some r->RL P N ops Q rest (upd ρ d (vb x)) w)(hx:ev ρ x= .int kk a:=by exact rfl)(hy:ev ρ y= .int kk b:=by exact rfl)(hw:dD N ops ρ ⟨some d,.binOp .neq t x y u,ty,pos,af,g⟩=true:=by exact rfl)(e:Nat.blt d N=true:=by exact rfl):RL P N ops Q (⟨some d,.binOp .neq t x y u,ty,pos,af,g⟩::rest) ρ w:=RLb c (Do_neq hx hy) n hw e
theorem dH {a b:Int}{kk:IntKind}{β:Type}{k:Int->Option β}{r:β}(c:gK (kk.wrap (a+b)) k=some r)(n: ∀x,k x=some r->RL P N ops Q rest (upd ρ d (.int kk x)) w)(hx:ev ρ x= .int kk a:=by exact rfl)(hy:ev ρ y= .int kk b:=by exact rfl)(hw:dD N ops ρ ⟨some d,.binOp .add t x y u,ty,pos,af,g⟩=true:=by exact rfl)(e:Nat.blt d N=true:=by exact rfl):RL P N ops Q (⟨some d,.binOp .add t x y u,ty,pos,af,g⟩::rest) ρ w:=RLi c (aAi hx hy rfl) n hw e
theorem aAh {a b:Int}{kk:IntKind}{β:Type}{k:Int->Option β}{r:β}(c:gK (kk.wrap (a-b)) k=some r)(n: ∀x,k x=some r->RL P N ops Q rest (upd ρ d (.int kk x)) w)(hx:ev ρ x= .int kk a:=by exact rfl)(hy:ev ρ y= .int kk b:=by exact rfl)(hw:dD N ops ρ ⟨some d,.binOp .sub t x y u,ty,pos,af,g⟩=true:=by exact rfl)(e:Nat.blt d N=true:=by exact rfl):RL P N ops Q (⟨some d,.binOp .sub t x y u,ty,pos,af,g⟩::rest) ρ w:=RLi c (nG hx hy rfl) n hw e
theorem aPj {a b:Int}{kk:IntKind}{β:Type}{k:Int->Option β}{r:β}(c:gK (kk.wrap (a*b)) k=some r)(n: ∀x,k x=some r->RL P N ops Q rest (upd ρ d (.int kk x)) w)(hx:ev ρ x= .int kk a:=by exact rfl)(hy:ev ρ y= .int kk b:=by exact rfl)(hw:dD N ops ρ ⟨some d,.binOp .mul t x y u,ty,pos,af,g⟩=true:=by exact rfl)(e:Nat.blt d N=true:=by exact rfl):RL P N ops Q (⟨some d,.binOp .mul t x y u,ty,pos,af,g⟩::rest) ρ w:=RLi c (aWd hx hy rfl) n hw e
theorem sJ {x y:Code}{O S:List Nat}{a b:World}{T:List Th}(_:Hd O a b S T)(W:List Nat)(l:List (Nat×Value))(h:WP P N x (rY (λρ' c=>Fr W ρ ρ'/\ ∃g:Unit,Sl ρ' ((λ_=>l) g)/\(λ_ wl=>Hd O a wl S T) g c) Q) ρ w)(k: ∀(_:Unit) ρ₁ w,Hd O a w S T->WP P N y Q (over ρ ρ₁ W l) w):WP P N (.seq x y) Q ρ w:=zW W (λ_:Unit=>l) (λ_ wl=>Hd O a wl S T) h k
theorem bE {α β:Type}{p:Prop}{x:Option α}{f:α->Option β}{r:β}(h:gB x f=some r)(k: ∀y,x=some y->f y=some r->p):p:=(yK h).elim λy q=>k y q.1 q.2
theorem lE {α β:Type}{p:Prop}{x:α}{f:α->Option β}{r:β}(h:gK x f=some r)(k: ∀y,x=y->f y=some r->p):p:=(aCq h).elim λy q=>k y q.1 q.2
theorem XQ {I:World->Prop}{κ:List MxM.Kd}{K:MxM.Mm->Env->World->Prop}{k:Nat}{M:MxM.Mm}{σ:List Nat}{v:Value}{op:Op}(h: ∀{a},Do P ⟨some d,op,ty,pos,af,g⟩ ρ a v a)(n:MxM.XL P I N ops κ K M σ rest (upd ρ d v) w)(hk:MxM.kdOf κ k= .pure:=by exact rfl)(hw:dD N ops ρ ⟨some d,op,ty,pos,af,g⟩=true:=by exact rfl)(b:Nat.blt d N=true:=by exact rfl):MxM.XL P I N ops κ K M (k::σ) (⟨some d,op,ty,pos,af,g⟩::rest) ρ w:=MxM.XL_pure hk hw b (λ_ _=>h) n
theorem aF {b:Bool}{β:Type}{k:Bool->Option β}{r:β}(a:gK (!b) k=some r)(n: ∀x,k x=some r->RL P N ops Q rest (upd ρ d (vb x)) w)(hx:ev ρ x=vb b:=by exact rfl)(hw:dD N ops ρ ⟨some d,.unOp .not t x,ty,pos,af,g⟩=true:=by exact rfl)(c:Nat.blt d N=true:=by exact rfl):RL P N ops Q (⟨some d,.unOp .not t x,ty,pos,af,g⟩::rest) ρ w:=RLb a (aGl hx) n hw c
theorem pt (v:Value){z:Operand}(n:RL P N ops Q rest (upd ρ d v) w)(hx:ev ρ x=vb true:=by exact rfl)(hy:ev ρ y=v:=by exact rfl)(hw:dD N ops ρ ⟨some d,.pick x y z,ty,pos,af,g⟩=true:=by exact rfl)(a:Nat.blt d N=true:=by exact rfl):RL P N ops Q (⟨some d,.pick x y z,ty,pos,af,g⟩::rest) ρ w:=kN hw a (pF hx hy) n
theorem pf (v:Value){z:Operand}(n:RL P N ops Q rest (upd ρ d v) w)(hx:ev ρ x=vb false:=by exact rfl)(hz:ev ρ z=v:=by exact rfl)(hw:dD N ops ρ ⟨some d,.pick x y z,ty,pos,af,g⟩=true:=by exact rfl)(a:Nat.blt d N=true:=by exact rfl):RL P N ops Q (⟨some d,.pick x y z,ty,pos,af,g⟩::rest) ρ w:=kN hw a (qK hx hz) n
theorem ix {α:Type}{L:List α}{i:Int}{z:α}{e:TypeId}{b o s c:Nat}{kk:IntKind}(hu:P.underlying t=some (.slice e))(hs:Sz P e s)(hx:ev ρ x= .slice (some ⟨b,o,none⟩) L.length c)(h:at' L i=some z)(n:RL P N ops Q rest (upd ρ d (.pointer (some ⟨b,o+i.toNat*s,none⟩))) w)(hy:ev ρ y= .int kk i:=by exact rfl)(hw:dD N ops ρ ⟨some d,.indexAddr t x y,ty,pos,af,g⟩=true:=by exact rfl)(a:Nat.blt d N=true:=by exact rfl):RL P N ops Q (⟨some d,.indexAddr t x y,ty,pos,af,g⟩::rest) ρ w:=kN hw a (xN hu hs hx hy (yA h).1 (yA h).2.1 rfl rfl) n
theorem lb {O S:List Nat}{a:World}{l:List Th}{b T n:Nat}{cs:List Value}(H:Hd O a w S l)(i:Nat)(h:l[i]? =some (.blk b cs T))(c:Agg P t)(hs:Sz P t n)(k:RL P N ops Q rest (upd ρ d (.agg cs.toArray)) w)(hx:ev ρ x= .pointer (some ⟨b,0,none⟩):=by exact rfl)(hl:cs.length=n:=by exact rfl)(hw:dD N ops ρ ⟨some d,.load t x,ty,pos,af,g⟩=true:=by exact rfl)(e:Nat.blt d N=true:=by exact rfl):RL P N ops Q (⟨some d,.load t x,ty,pos,af,g⟩::rest) ρ w:=kN hw e (yJ c hx hs hl (Blk.cells (H.V h))) k
theorem WJ {β:Type}{b:Bool}{x y:Option β}{r:β}{c:Operand}{s t:Code}(a:gQ b x y=some r)(ht:x=some r->WP P N s Q ρ w)(hf:y=some r->WP P N t Q ρ w)(hc:ev ρ c=vb b:=by exact rfl):WP P N (.cond c s t) Q ρ w:=WI a hc ht hf
theorem RJ {β:Type}{b:Bool}{x y:Option β}{r:β}{z:Operand}(a:gQ b x y=some r)(ht:x=some r->RL P N ops Q rest (upd ρ d (vb true)) w)(hf:y=some r->RL P N ops Q rest (upd ρ d (vb false)) w)(hx:ev ρ z=vb b:=by exact rfl)(hw:dD N ops ρ ⟨some d,.move z,ty,pos,af,g⟩=true:=by exact rfl)(c:Nat.blt d N=true:=by exact rfl):RL P N ops Q (⟨some d,.move z,ty,pos,af,g⟩::rest) ρ w:=RI a hx ht hf hw c
end
abbrev Cl (f:Nat)(a:List Value)(w:World)(R:Ending->World->Prop):Prop:=Calls Tryz.prog f a.toArray w R
abbrev Rt (f:Nat)(a:List Value)(v:Value)(w:World)(O S:List Nat)(L:List Th):Prop:=Cl f a w λe h=>e= .returned v/\Hd O w h S L
abbrev i6 (n:Int):Value:= .int .i64 n
abbrev sb (s:Str):Value:= .string (bs s)
abbrev f1 {α:Type}(r:Rp α)(v:Value)(l:List α):Th:= .fz (.sl r v l)
theorem Hbc {O S:List Nat}{a w:World}{l:List Th}{b:Nat}{T:TypeId}{cs:List Value}(H:Hd O a w S l)(i:Nat)(h:l[i]? =some (.blk b cs T)):Cells w ⟨b,0,none⟩ cs:=Blk.cells (H.V h)
theorem Hbg {O S:List Nat}{a w:World}{l:List Th}{b:Nat}{T:TypeId}{cs:List Value}{v:Value}(H:Hd O a w S l)(i j:Nat)(h:l[i]? =some (.blk b cs T))(c:cs[j]? =some v):w.cell? ⟨b,0+j,none⟩=some v:=Cells.get (Blk.cells (H.V h)) c
theorem XP {P:Program}{I:World->Prop}{N:Nat}{ops:Array Oper}{κ:List MxM.Kd}{K:MxM.Mm->Env->World->Prop}{k:Nat}{M:MxM.Mm}{σ:List Nat}{rest:List Oper}{ρ:Env}{w:World}{d:Nat}{ty:TypeId}{pos:String}{af:Array Edge}{g:Option (Nat×Bool)}{v:Value}{op:Op}(h: ∀a,I a->Do P ⟨some d,op,ty,pos,af,g⟩ ρ a v a)(n:MxM.XL P I N ops κ K M σ rest (upd ρ d v) w)(hk:MxM.kdOf κ k= .pure:=by exact rfl)(hw:dD N ops ρ ⟨some d,op,ty,pos,af,g⟩=true:=by exact rfl)(hd:Nat.blt d N=true:=by exact rfl):MxM.XL P I N ops κ K M (k::σ) (⟨some d,op,ty,pos,af,g⟩::rest) ρ w:=MxM.XL_pure hk hw hd h n
theorem XO {P:Program}{I:World->Prop}{N:Nat}{ops:Array Oper}{κ:List MxM.Kd}{K:MxM.Mm->Env->World->Prop}{k:Nat}{M:MxM.Mm}{σ:List Nat}{rest:List Oper}{ρ:Env}{w:World}{d:Nat}{ty:TypeId}{pos:String}{af:Array Edge}{g:Option (Nat×Bool)}{op:Op}(n:MxM.XL P I N ops κ K M σ rest (upd ρ d undef) w)(hk:MxM.kdOf κ k= .pure:=by exact rfl)(hw:dD N ops ρ ⟨some d,op,ty,pos,af,g⟩=false:=by exact rfl)(hd:Nat.blt d N=true:=by exact rfl):MxM.XL P I N ops κ K M (k::σ) (⟨some d,op,ty,pos,af,g⟩::rest) ρ w:=MxM.XL_offp hk hw hd n
theorem XM {P:Program}{I:World->Prop}{N:Nat}{ops:Array Oper}{κ:List MxM.Kd}{K:MxM.Mm->Env->World->Prop}{k:Nat}{M:MxM.Mm}{σ:List Nat}{rest:List Oper}{ρ:Env}{w:World}{d:Nat}{ty:TypeId}{pos:String}{af:Array Edge}{g:Option (Nat×Bool)}{x:Operand}(v:Value)(n:MxM.XL P I N ops κ K M σ rest (upd ρ d v) w)(hx:ev ρ x=v:=by exact rfl)(hk:MxM.kdOf κ k= .pure:=by exact rfl)(hw:dD N ops ρ ⟨some d,.move x,ty,pos,af,g⟩=true:=by exact rfl)(hd:Nat.blt d N=true:=by exact rfl):MxM.XL P I N ops κ K M (k::σ) (⟨some d,.move x,ty,pos,af,g⟩::rest) ρ w:=MxM.XL_pure hk hw hd (λ_ _=>mM hx) n
theorem XR {P:Program}{c:World}{e:List Nat}{N:Nat}{ops:Array Oper}{κ:List MxM.Kd}{K:MxM.Mm->Env->World->Prop}{k:Nat}{M:MxM.Mm}{σ:List Nat}{rest:List Oper}{ρ:Env}{w:World}{d:Nat}{ty:TypeId}{pos:String}{af:Array Edge}{g:Option (Nat×Bool)}{t:TypeId}{x:Operand}{O S:List Nat}{f:World}{l:List Th}{b:Nat}{T:TypeId}{cs:List Value}{v:Value}(o:bK P t)(H:Hd O f w S l)(i j:Nat)(h:l[i]? =some (.blk b cs T))(p:cs[j]? =some v)(n:MxM.XL P (λa=>Only e c a) N ops κ K M σ rest (upd ρ d v) w)(hx:ev ρ x= .pointer (some ⟨b,0+j,none⟩):=by exact rfl)(hk:MxM.kdOf κ k= .read:=by exact rfl)(hw:dD N ops ρ ⟨some d,.load t x,ty,pos,af,g⟩=true:=by exact rfl)(hd:Nat.blt d N=true:=by exact rfl):MxM.XL P (λa=>Only e c a) N ops κ K M (k::σ) (⟨some d,.load t x,ty,pos,af,g⟩::rest) ρ w:=MxM.xO oS hk hw hd (λ_ q=>yM o hx (Hbg (H.Z q) i j h p)) n
theorem Ld {P:Program}{N:Nat}{ops:Array Oper}{Q:Exit->Env->World->Prop}{rest:List Oper}{ρ:Env}{w:World}{d:Nat}{t ty:TypeId}{x:Operand}{pos:String}{af:Array Edge}{g:Option (Nat×Bool)}{O S:List Nat}{a:World}{l:List Th}{b:Nat}{T:TypeId}{cs:List Value}{v:Value}(o:bK P t)(H:Hd O a w S l)(i j:Nat)(h:l[i]? =some (.blk b cs T))(c:cs[j]? =some v)(k:RL P N ops Q rest (upd ρ d v) w)(hx:ev ρ x= .pointer (some ⟨b,0+j,none⟩):=by exact rfl)(hw:dD N ops ρ ⟨some d,.load t x,ty,pos,af,g⟩=true:=by exact rfl)(hd:Nat.blt d N=true:=by exact rfl):RL P N ops Q (⟨some d,.load t x,ty,pos,af,g⟩::rest) ρ w:=zN (yM o hx (Hbg H i j h c)) k hw hd
theorem fU {f:FuncId}{fn:Func}(h:Tryz.prog.funcs[f]? =some fn)(a:fn.body.isSome=true:=by exact rfl)(b:(fn.name== "runtime.NumGoroutine")=false:=by kernel_rfl):Go.OB.Enters Tryz.prog f:=⟨_,h,a,b⟩
theorem u2:Tryz.prog.underlying 2=some (.int .i64):=Tryz.underlying2
theorem u3:Tryz.prog.underlying 3=some (.int .i64):=Tryz.underlying3
theorem u5:Tryz.prog.underlying 5=some (.int .u8):=Tryz.underlying5
theorem u9:Tryz.prog.underlying 9=some .string:=Tryz.underlying9
theorem u22:Tryz.prog.underlying 22=some (.slice 165):=Tryz.underlying22
theorem u25:Tryz.prog.underlying 25=some (.slice 9):=Tryz.underlying25
theorem u26:Tryz.prog.underlying 26=some (.slice 148):=Tryz.underlying26
theorem u27:Tryz.prog.underlying 27=some (.slice 150):=Tryz.underlying27
theorem u31:Tryz.prog.underlying 31=some (.slice 3):=Tryz.underlying31
theorem u36:Tryz.prog.underlying 36=some (.slice 31):=Tryz.underlying36
theorem u61:Tryz.prog.underlying 61=some (.slice 131):=Tryz.underlying61
theorem u68:Tryz.prog.underlying 68=some (.slice 5):=Tryz.underlying68
theorem aYr:Tryz.prog.underlying 100=some (.map 9 3):=Tryz.underlying100
theorem u119:Tryz.prog.underlying 119=some (.slice 128):=Tryz.underlying119
theorem aCz:Tryz.prog.underlying 120=some (.slice 126):=Tryz.underlying120
theorem qJ:Tryz.prog.underlying 121=some (.slice 4):=Tryz.underlying121
theorem aGk:Tryz.prog.underlying 133=some (.slice 143):=Tryz.underlying133
theorem jL:Tryz.prog.underlying 137=some (.slice 139):=Tryz.underlying137
theorem aTt:Tryz.prog.underlying 140=some (.slice 310):=Tryz.underlying140
theorem vI:Tryz.prog.underlying 141=some (.slice 338):=Tryz.underlying141
theorem aBd:Tryz.prog.underlying 161=some (.slice 179):=Tryz.underlying161
theorem aTa:Tryz.prog.underlying 217=some (.array 3 3):=Tryz.underlying217
theorem u260:Tryz.prog.underlying 260=some (.array 7 9):=Tryz.underlying260
theorem aSb:Tryz.prog.underlying 282=some (.int .u64):=Tryz.underlying282
theorem u304:Tryz.prog.underlying 304=some (.int .u64):=Tryz.underlying304
theorem u310:Tryz.prog.underlying 310=some (.int .i8):=Tryz.underlying310
theorem fo184_2:aFu Tryz.prog 184 2=some (2,3):=by kernel_rfl
theorem fo184_3:aFu Tryz.prog 184 3=some (3,9):=by kernel_rfl
theorem ui194:Tryz.prog.underlying 194=some (.interface (Tryz.prog.methodsAt 194)):=by kernel_rfl
theorem sz3:Sz Tryz.prog 3 1:=by unfold Sz;kernel_rfl
theorem sz4:Sz Tryz.prog 4 1:=by unfold Sz;kernel_rfl
theorem sz9:Sz Tryz.prog 9 1:=by unfold Sz;kernel_rfl
theorem sz25:Sz Tryz.prog 25 1:=by unfold Sz;kernel_rfl
theorem sz27:Sz Tryz.prog 27 1:=by unfold Sz;kernel_rfl
theorem rD:Sz Tryz.prog 29 3:=by unfold Sz;kernel_rfl
theorem aEa:Sz Tryz.prog 31 1:=by unfold Sz;kernel_rfl
theorem sz36:Sz Tryz.prog 36 1:=by unfold Sz;kernel_rfl
theorem sz61:Sz Tryz.prog 61 1:=by unfold Sz;kernel_rfl
theorem sz68:Sz Tryz.prog 68 1:=by unfold Sz;kernel_rfl
theorem sz119:Sz Tryz.prog 119 1:=by unfold Sz;kernel_rfl
theorem sz120:Sz Tryz.prog 120 1:=by unfold Sz;kernel_rfl
theorem sz121:Sz Tryz.prog 121 1:=by unfold Sz;kernel_rfl
theorem aFc:Sz Tryz.prog 126 1:=by unfold Sz;kernel_rfl
theorem aOk:Sz Tryz.prog 128 3:=by unfold Sz;kernel_rfl
theorem mW:Sz Tryz.prog 131 2:=by unfold Sz;kernel_rfl
theorem sz133:Sz Tryz.prog 133 1:=by unfold Sz;kernel_rfl
theorem fZ:Sz Tryz.prog 139 7:=by unfold Sz;kernel_rfl
theorem sz140:Sz Tryz.prog 140 1:=by unfold Sz;kernel_rfl
theorem aPe:Sz Tryz.prog 141 1:=by unfold Sz;kernel_rfl
theorem aEu:Sz Tryz.prog 143 18:=by unfold Sz;kernel_rfl
theorem rX:Sz Tryz.prog 148 9:=by unfold Sz;kernel_rfl
theorem mO:Sz Tryz.prog 150 8:=by unfold Sz;kernel_rfl
theorem aHp:Sz Tryz.prog 163 2:=by unfold Sz;kernel_rfl
theorem mQ:Sz Tryz.prog 165 4:=by unfold Sz;kernel_rfl
theorem sz168:Sz Tryz.prog 168 1:=by unfold Sz;kernel_rfl
theorem aI:Sz Tryz.prog 179 3:=by unfold Sz;kernel_rfl
theorem aPb:Sz Tryz.prog 184 4:=by unfold Sz;kernel_rfl
theorem sz188:Sz Tryz.prog 188 2:=by unfold Sz;kernel_rfl
theorem sz217:Sz Tryz.prog 217 3:=by unfold Sz;kernel_rfl
theorem aHi:Sz Tryz.prog 310 1:=by unfold Sz;kernel_rfl
theorem nC:Sz Tryz.prog 317 7:=by unfold Sz;kernel_rfl
theorem aHo:Sz Tryz.prog 338 2:=by unfold Sz;kernel_rfl
theorem fD:bK Tryz.prog 3:=by unfold bK;kernel_rfl
theorem rV:bK Tryz.prog 4:=by unfold bK;kernel_rfl
theorem dM:bK Tryz.prog 9:=by unfold bK;kernel_rfl
theorem kH:bK Tryz.prog 25:=by unfold bK;kernel_rfl
theorem vO:bK Tryz.prog 26:=by unfold bK;kernel_rfl
theorem nI:bK Tryz.prog 27:=by unfold bK;kernel_rfl
theorem kJ:bK Tryz.prog 31:=by unfold bK;kernel_rfl
theorem one32:bK Tryz.prog 32:=by unfold bK;kernel_rfl
theorem one36:bK Tryz.prog 36:=by unfold bK;kernel_rfl
theorem aOt:bK Tryz.prog 61:=by unfold bK;kernel_rfl
theorem aTd:bK Tryz.prog 68:=by unfold bK;kernel_rfl
theorem aEc:bK Tryz.prog 100:=by unfold bK;kernel_rfl
theorem aWo:bK Tryz.prog 119:=by unfold bK;kernel_rfl
theorem aWr:bK Tryz.prog 120:=by unfold bK;kernel_rfl
theorem wL:bK Tryz.prog 121:=by unfold bK;kernel_rfl
theorem qC:bK Tryz.prog 126:=by unfold bK;kernel_rfl
theorem uS:bK Tryz.prog 133:=by unfold bK;kernel_rfl
theorem aU:bK Tryz.prog 137:=by unfold bK;kernel_rfl
theorem aDt:bK Tryz.prog 140:=by unfold bK;kernel_rfl
theorem mX:bK Tryz.prog 141:=by unfold bK;kernel_rfl
theorem qB:bK Tryz.prog 161:=by unfold bK;kernel_rfl
theorem one168:bK Tryz.prog 168:=by unfold bK;kernel_rfl
theorem uV:bK Tryz.prog 182:=by unfold bK;kernel_rfl
theorem one310:bK Tryz.prog 310:=by unfold bK;kernel_rfl
theorem jH:Agg Tryz.prog 29:=by unfold Agg;kernel_rfl
theorem agg128:Agg Tryz.prog 128:=by unfold Agg;kernel_rfl
theorem aDr:Agg Tryz.prog 131:=by unfold Agg;kernel_rfl
theorem eU:Agg Tryz.prog 139:=by unfold Agg;kernel_rfl
theorem agg143:Agg Tryz.prog 143:=by unfold Agg;kernel_rfl
theorem aGf:Agg Tryz.prog 148:=by unfold Agg;kernel_rfl
theorem aHa:Agg Tryz.prog 150:=by unfold Agg;kernel_rfl
theorem aBn:Agg Tryz.prog 163:=by unfold Agg;kernel_rfl
theorem aKz:Agg Tryz.prog 165:=by unfold Agg;kernel_rfl
theorem rE:Agg Tryz.prog 179:=by unfold Agg;kernel_rfl
theorem aXb:Agg Tryz.prog 184:=by unfold Agg;kernel_rfl
theorem agg217:Agg Tryz.prog 217:=by unfold Agg;kernel_rfl
theorem uZ:Agg Tryz.prog 317:=by unfold Agg;kernel_rfl
theorem zero3:Go.OB.Zero Tryz.prog 3 ([i6 0]):=by unfold Go.OB.Zero;kernel_rfl
theorem zero9:Go.OB.Zero Tryz.prog 9 ([.string (bs [])]):=by unfold Go.OB.Zero;kernel_rfl
theorem zero25:Go.OB.Zero Tryz.prog 25 ([.slice none 0 0]):=by unfold Go.OB.Zero;kernel_rfl
theorem zero29:Go.OB.Zero Tryz.prog 29 ([.slice none 0 0,.slice none 0 0,.slice none 0 0]):=by unfold Go.OB.Zero;kernel_rfl
theorem zero36:Go.OB.Zero Tryz.prog 36 ([.slice none 0 0]):=by unfold Go.OB.Zero;kernel_rfl
theorem aYx:Go.OB.Zero Tryz.prog 128 ([i6 0,i6 0,.nilIface]):=by unfold Go.OB.Zero;kernel_rfl
theorem tH:Go.OB.Zero Tryz.prog 131 ([i6 0,vb false]):=by unfold Go.OB.Zero;kernel_rfl
theorem kW:Go.OB.Zero Tryz.prog 139 ([i6 0,.string (bs []),.string (bs []),i6 0,i6 0,i6 0,.slice none 0 0]):=by unfold Go.OB.Zero;kernel_rfl
theorem zero143:Go.OB.Zero Tryz.prog 143 ([i6 0,.string (bs []),.string (bs []),i6 0,i6 0,i6 0,.slice none 0 0,.slice none 0 0,i6 0,i6 0,i6 0,.slice none 0 0,i6 0,i6 0,i6 0,i6 0,.slice none 0 0,.slice none 0 0]):=by unfold Go.OB.Zero;kernel_rfl
theorem aFx:Go.OB.Zero Tryz.prog 148 ([.string (bs []),.string (bs []),i6 0,.string (bs []),.string (bs []),i6 0,i6 0,i6 0,.slice none 0 0]):=by unfold Go.OB.Zero;kernel_rfl
theorem aFl:Go.OB.Zero Tryz.prog 150 ([.string (bs []),i6 0,.string (bs []),.string (bs []),i6 0,i6 0,i6 0,.slice none 0 0]):=by unfold Go.OB.Zero;kernel_rfl
theorem aQa:Go.OB.Zero Tryz.prog 165 ([.string (bs []),i6 0,.slice none 0 0,i6 0]):=by unfold Go.OB.Zero;kernel_rfl
theorem zero168:Go.OB.Zero Tryz.prog 168 ([.nilFunc]):=by unfold Go.OB.Zero;kernel_rfl
theorem vN:Go.OB.Zero Tryz.prog 179 ([i6 0,i6 0,i6 0]):=by unfold Go.OB.Zero;kernel_rfl
theorem bAw:Go.OB.Zero Tryz.prog 184 ([i6 0,i6 0,i6 0,.string (bs [])]):=by unfold Go.OB.Zero;kernel_rfl
theorem zero188:Go.OB.Zero Tryz.prog 188 ([i6 0,i6 0]):=by unfold Go.OB.Zero;kernel_rfl
theorem zero192:Go.OB.Zero Tryz.prog 192 ([.pointer none,.slice none 0 0]):=by unfold Go.OB.Zero;kernel_rfl
theorem zero217:Go.OB.Zero Tryz.prog 217 ((Fl.arr 3 (Fl.int .i64)).f (Arr.rep 3 0:Arr 3 Int)):=by unfold Go.OB.Zero;kernel_rfl
theorem bAr:Go.OB.Zero Tryz.prog 317 ([vb false,vb false,vb false,vb false,vb false,i6 0,i6 0]):=by unfold Go.OB.Zero;kernel_rfl
theorem el3:El Tryz.prog 3 1 8 ([i6 0]):=⟨by kernel_rfl,by kernel_rfl,by kernel_rfl,by decide,by decide⟩
theorem el4:El Tryz.prog 4 1 1 ([vb false]):=⟨by kernel_rfl,by kernel_rfl,by kernel_rfl,by decide,by decide⟩
theorem el5:El Tryz.prog 5 1 1 ([.int .u8 0]):=⟨by kernel_rfl,by kernel_rfl,by kernel_rfl,by decide,by decide⟩
theorem el9:El Tryz.prog 9 1 16 ([.string (bs [])]):=⟨by kernel_rfl,by kernel_rfl,by kernel_rfl,by decide,by decide⟩
theorem el31:El Tryz.prog 31 1 24 ([.slice none 0 0]):=⟨by kernel_rfl,by kernel_rfl,by kernel_rfl,by decide,by decide⟩
theorem aSw:El Tryz.prog 126 1 16 ([.nilIface]):=⟨by kernel_rfl,by kernel_rfl,by kernel_rfl,by decide,by decide⟩
theorem el128:El Tryz.prog 128 3 32 ([i6 0,i6 0,.nilIface]):=⟨by kernel_rfl,by kernel_rfl,by kernel_rfl,by decide,by decide⟩
theorem aJi:El Tryz.prog 131 2 16 ([i6 0,vb false]):=⟨by kernel_rfl,by kernel_rfl,by kernel_rfl,by decide,by decide⟩
theorem aNq:El Tryz.prog 139 7 88 ([i6 0,.string (bs []),.string (bs []),i6 0,i6 0,i6 0,.slice none 0 0]):=⟨by kernel_rfl,by kernel_rfl,by kernel_rfl,by decide,by decide⟩
theorem el143:El Tryz.prog 143 18 240 ([i6 0,.string (bs []),.string (bs []),i6 0,i6 0,i6 0,.slice none 0 0,.slice none 0 0,i6 0,i6 0,i6 0,.slice none 0 0,i6 0,i6 0,i6 0,i6 0,.slice none 0 0,.slice none 0 0]):=⟨by kernel_rfl,by kernel_rfl,by kernel_rfl,by decide,by decide⟩
theorem el150:El Tryz.prog 150 8 104 ([.string (bs []),i6 0,.string (bs []),.string (bs []),i6 0,i6 0,i6 0,.slice none 0 0]):=⟨by kernel_rfl,by kernel_rfl,by kernel_rfl,by decide,by decide⟩
theorem el310:El Tryz.prog 310 1 1 ([.int .i8 0]):=⟨by kernel_rfl,by kernel_rfl,by kernel_rfl,by decide,by decide⟩
theorem aNw:El Tryz.prog 338 2 16 ([i6 0,i6 0]):=⟨by kernel_rfl,by kernel_rfl,by kernel_rfl,by decide,by decide⟩
theorem z8_5:Z8 Tryz.prog 5:=by unfold Z8;kernel_rfl
theorem bz70:Tryz.prog.built 70 []=some ([.slice none 0 0]).toArray:=by kernel_rfl
theorem bz179:Tryz.prog.built 179 []=some ([i6 0,i6 0,i6 0]).toArray:=by kernel_rfl
theorem bz317:Tryz.prog.built 317 []=some ([vb false,vb false,vb false,vb false,vb false,i6 0,i6 0]).toArray:=by kernel_rfl
theorem aVf (a:Option Addr)(b c:Nat)(d:Int)(e:Option Addr)(f h:Nat):Tryz.prog.built 123 [(0,.slice a b c),(1,i6 d),(4,.slice e f h)]=some [.slice a b c,i6 d,.slice none 0 0,.slice none 0 0,.slice e f h].toArray:=by kernel_rfl
theorem aVx (a b:Int)(a2T:TypeId)(c:Value):Tryz.prog.built 128 [(0,i6 a),(1,i6 b),(2,.iface a2T c)]=some [i6 a,i6 b,.iface a2T c].toArray:=by kernel_rfl
theorem aNr (a:Int)(b:Bool):Tryz.prog.built 131 [(0,i6 a),(1,vb b)]=some [i6 a,vb b].toArray:=by kernel_rfl
theorem bt135_0_5 (a:Option Addr)(b c:Nat)(d:Option Addr)(e f:Nat)(h:Option Addr)(i j:Nat)(k:Option Addr)(l n:Nat):Tryz.prog.built 135 [(0,.agg [.slice a b c,.slice d e f,.slice h i j].toArray),(5,.slice k l n)]=some [.slice a b c,.slice d e f,.slice h i j,.slice none 0 0,.slice none 0 0,.slice none 0 0,i6 0,.slice k l n,.slice none 0 0,i6 0,.slice none 0 0,.slice none 0 0].toArray:=by kernel_rfl
theorem bt139_0 (a:Int):Tryz.prog.built 139 [(0,i6 a)]=some [i6 a,.string (bs []),.string (bs []),i6 0,i6 0,i6 0,.slice none 0 0].toArray:=by kernel_rfl
theorem bt139_0_1 (a:Int)(b:Str):Tryz.prog.built 139 [(0,i6 a),(1,sb b)]=some [i6 a,sb b,.string (bs []),i6 0,i6 0,i6 0,.slice none 0 0].toArray:=by kernel_rfl
theorem aNu (a:Int)(b:Option Addr)(c d:Nat):Tryz.prog.built 139 [(0,i6 a),(6,.slice b c d)]=some [i6 a,.string (bs []),.string (bs []),i6 0,i6 0,i6 0,.slice b c d].toArray:=by kernel_rfl
theorem bt143_0 (a:Int)(b c:Str)(d e f:Int)(h:Option Addr)(i j:Nat):Tryz.prog.built 143 [(0,.agg [i6 a,sb b,sb c,i6 d,i6 e,i6 f,.slice h i j].toArray)]=some [i6 a,sb b,sb c,i6 d,i6 e,i6 f,.slice h i j,.slice none 0 0,i6 0,i6 0,i6 0,.slice none 0 0,i6 0,i6 0,i6 0,i6 0,.slice none 0 0,.slice none 0 0].toArray:=by kernel_rfl
theorem bt150_0 (a:Str):Tryz.prog.built 150 [(0,sb a)]=some [sb a,i6 0,.string (bs []),.string (bs []),i6 0,i6 0,i6 0,.slice none 0 0].toArray:=by kernel_rfl
theorem bt184_0_1 (a b:Int):Tryz.prog.built 184 [(0,i6 a),(1,i6 b)]=some [i6 a,i6 b,i6 0,.string (bs [])].toArray:=by kernel_rfl
theorem bt186_0 (a:Str):Tryz.prog.built 186 [(0,sb a)]=some [sb a,i6 0,i6 0,i6 0,i6 0,.string (bs []),.slice none 0 0,.slice none 0 0,.slice none 0 0].toArray:=by kernel_rfl
theorem aTm (a:Option Nat)(b:Option Addr)(c d:Nat)(e:Option Nat):Tryz.prog.built 204 [(0,.map a),(2,.slice b c d),(3,.map e)]=some [.map a,.slice none 0 0,.slice b c d,.map e].toArray:=by kernel_rfl
theorem bt210_0 (a:Option Addr)(b c:Nat):Tryz.prog.built 210 [(0,.slice a b c)]=some [.slice a b c,.slice none 0 0,.slice none 0 0].toArray:=by kernel_rfl
theorem aUk (a b c:Int):Tryz.prog.built 215 [(0,i6 a),(1,i6 b),(2,i6 c)]=some [i6 a,i6 b,i6 c,.slice none 0 0].toArray:=by kernel_rfl
theorem aBu (a0T:TypeId)(a:Value)(b c:Int):Tryz.prog.built 219 [(0,.iface a0T a),(1,i6 b),(2,i6 c)]=some [.iface a0T a,i6 b,i6 c,.slice none 0 0,i6 0,i6 0,i6 0].toArray:=by kernel_rfl
theorem bt222_0 (a0T:TypeId)(a:Value):Tryz.prog.built 222 [(0,.iface a0T a)]=some [.iface a0T a].toArray:=by kernel_rfl
theorem bt225_0_1 (a:Option Addr)(b c:Nat)(d:Bool):Tryz.prog.built 225 [(0,.slice a b c),(1,vb d)]=some [.slice a b c,vb d].toArray:=by kernel_rfl
theorem bt229_0_1 (a0T:TypeId)(a:Value)(a1T:TypeId)(b:Value):Tryz.prog.built 229 [(0,.iface a0T a),(1,.iface a1T b)]=some [.iface a0T a,.iface a1T b,i6 0,vb false].toArray:=by kernel_rfl
theorem bt232_0 (a0T:TypeId)(a:Value):Tryz.prog.built 232 [(0,.iface a0T a)]=some [.iface a0T a,i6 0,vb false].toArray:=by kernel_rfl
theorem aZu (a:Int):Tryz.prog.built 269 [(0,i6 a)]=some [i6 a].toArray:=by kernel_rfl
theorem aUp (a b c:Int):Tryz.prog.built 271 [(0,i6 a),(1,i6 b),(2,i6 c)]=some [i6 a,i6 b,i6 c].toArray:=by kernel_rfl
theorem aHv (a b c d e:Int):Tryz.prog.built 273 [(0,i6 a),(1,i6 b),(2,i6 c),(3,i6 d),(4,i6 e)]=some [i6 a,i6 b,i6 c,i6 d,i6 e].toArray:=by kernel_rfl
theorem bt275_0 (a:Int):Tryz.prog.built 275 [(0,i6 a)]=some [i6 a].toArray:=by kernel_rfl
theorem bt277_0 (a:Int):Tryz.prog.built 277 [(0,i6 a)]=some [i6 a].toArray:=by kernel_rfl
theorem bt317_0 (a:Bool):Tryz.prog.built 317 [(0,vb a)]=some [vb a,vb false,vb false,vb false,vb false,i6 0,i6 0].toArray:=by kernel_rfl
theorem aSz (a b c:Bool):Tryz.prog.built 317 [(0,vb a),(1,vb b),(2,vb c)]=some [vb a,vb b,vb c,vb false,vb false,i6 0,i6 0].toArray:=by kernel_rfl
theorem aUc (a b c:Bool):Tryz.prog.built 317 [(0,vb a),(2,vb b),(3,vb c)]=some [vb a,vb false,vb b,vb c,vb false,i6 0,i6 0].toArray:=by kernel_rfl
theorem aSs (a b c:Bool):Tryz.prog.built 317 [(0,vb a),(3,vb b),(4,vb c)]=some [vb a,vb false,vb false,vb b,vb c,i6 0,i6 0].toArray:=by kernel_rfl
theorem aMs (a b:Bool)(c d:Int):Tryz.prog.built 317 [(3,vb a),(4,vb b),(5,i6 c),(6,i6 d)]=some [vb false,vb false,vb false,vb a,vb b,i6 c,i6 d].toArray:=by kernel_rfl
theorem aUj (a:Bool)(b c:Int):Tryz.prog.built 317 [(4,vb a),(5,i6 b),(6,i6 c)]=some [vb false,vb false,vb false,vb false,vb a,i6 b,i6 c].toArray:=by kernel_rfl
theorem aGn (a b:Int):Tryz.prog.built 317 [(5,i6 a),(6,i6 b)]=some [vb false,vb false,vb false,vb false,vb false,i6 a,i6 b].toArray:=by kernel_rfl
theorem aNm (a b:Int):Tryz.prog.built 338 [(0,i6 a),(1,i6 b)]=some [i6 a,i6 b].toArray:=by kernel_rfl
abbrev gW (b:Nat):Value:= .pointer (some ⟨b,0,none⟩)
def FAt (t i m:Nat):Prop:= ∀{ρ:Env}{w:World}{d:Option Tmp}{x:Operand}{ty:TypeId}{pos:String}{af:Array Edge}{g:Option (Nat×Bool)}{b o:Nat} (_:ev ρ x= .pointer (some ⟨b,o,none⟩)),Do Tryz.prog ⟨d,.fieldAddr t x i,ty,pos,af,g⟩ ρ w (.pointer (some ⟨b,o+m,none⟩)) w
theorem faO {t i m:Nat}(n:Nat)(h:aJu Tryz.prog t i=some (m,some n):=by kernel_rfl)(hn:n≠0:=by decide):FAt t i m:=λhx=>aMx h hn hx
theorem aZ:FAt 29 0 0:=faO 1
theorem rJ:FAt 29 1 1:=faO 1
theorem kC:FAt 29 2 2:=faO 1
theorem aKb:FAt 70 0 0:=faO 1
theorem bBp:FAt 123 0 0:=faO 1
theorem aIq:FAt 123 2 2:=faO 1
theorem aQp:FAt 123 3 3:=faO 1
theorem aFn:FAt 123 4 4:=faO 1
theorem fa128_0:FAt 128 0 0:=faO 1
theorem fa128_1:FAt 128 1 1:=faO 1
theorem fa128_2:FAt 128 2 2:=faO 1
theorem mP:FAt 131 0 0:=faO 1
theorem vJ:FAt 131 1 1:=faO 1
theorem aCl:FAt 135 0 0:=faO 3
theorem aRy:FAt 135 1 3:=faO 1
theorem aRc:FAt 135 2 4:=faO 1
theorem bAy:FAt 135 3 5:=faO 1
theorem aCj:FAt 135 4 6:=faO 1
theorem aFk:FAt 135 5 7:=faO 1
theorem pV:FAt 135 6 8:=faO 1
theorem aQf:FAt 135 7 9:=faO 1
theorem aQk:FAt 135 8 10:=faO 1
theorem aIw:FAt 135 9 11:=faO 1
theorem dY:FAt 139 0 0:=faO 1
theorem aB:FAt 139 1 1:=faO 1
theorem vW:FAt 139 2 2:=faO 1
theorem qX:FAt 139 3 3:=faO 1
theorem kY:FAt 139 4 4:=faO 1
theorem kR:FAt 139 5 5:=faO 1
theorem bF:FAt 139 6 6:=faO 1
theorem nZ:FAt 143 0 0:=faO 7
theorem uK:FAt 143 1 7:=faO 1
theorem bAx:FAt 143 2 8:=faO 1
theorem kS:FAt 143 3 9:=faO 1
theorem bBr:FAt 143 4 10:=faO 1
theorem vP:FAt 143 5 11:=faO 1
theorem uI:FAt 143 6 12:=faO 1
theorem aAl:FAt 143 7 13:=faO 1
theorem aAg:FAt 143 8 14:=faO 1
theorem aEr:FAt 143 9 15:=faO 1
theorem jU:FAt 143 10 16:=faO 1
theorem nT:FAt 143 11 17:=faO 1
theorem aIx:FAt 148 0 0:=faO 1
theorem aJe:FAt 148 1 1:=faO 1
theorem vX:FAt 148 2 2:=faO 7
theorem vS:FAt 150 0 0:=faO 1
theorem tC:FAt 150 1 1:=faO 7
theorem aIn:FAt 163 0 0:=faO 1
theorem jS:FAt 163 1 1:=faO 1
theorem sZ:FAt 165 0 0:=faO 1
theorem aCg:FAt 165 1 1:=faO 2
theorem aIm:FAt 165 2 3:=faO 1
theorem tK:FAt 179 0 0:=faO 1
theorem aCt:FAt 179 1 1:=faO 1
theorem aCm:FAt 179 2 2:=faO 1
theorem pW:FAt 184 0 0:=faO 1
theorem fa184_2:FAt 184 2 2:=faO 1
theorem aAx:FAt 184 3 3:=faO 1
theorem aAp:FAt 186 0 0:=faO 1
theorem pX:FAt 186 1 1:=faO 1
theorem bZ:FAt 186 2 2:=faO 4
theorem aIp:FAt 186 3 6:=faO 3
theorem fa188_1:FAt 188 1 1:=faO 1
theorem aRw:FAt 192 1 1:=faO 1
theorem aFs:FAt 204 0 0:=faO 1
theorem aIa:FAt 204 1 1:=faO 1
theorem fa204_2:FAt 204 2 2:=faO 1
theorem bAm:FAt 204 3 3:=faO 1
theorem aJd:FAt 210 0 0:=faO 1
theorem aRq:FAt 210 1 1:=faO 1
theorem aIe:FAt 210 2 2:=faO 1
theorem fa215_0:FAt 215 0 0:=faO 1
theorem fa215_1:FAt 215 1 1:=faO 1
theorem aZf:FAt 215 2 2:=faO 1
theorem aZv:FAt 215 3 3:=faO 1
theorem fa219_0:FAt 219 0 0:=faO 1
theorem aZy:FAt 219 1 1:=faO 1
theorem bAa:FAt 219 2 2:=faO 1
theorem aCk:FAt 219 3 3:=faO 1
theorem aFo:FAt 219 4 4:=faO 3
theorem fa222_0:FAt 222 0 0:=faO 1
theorem fa225_0:FAt 225 0 0:=faO 1
theorem fa225_1:FAt 225 1 1:=faO 1
theorem fa229_0:FAt 229 0 0:=faO 1
theorem fa229_1:FAt 229 1 1:=faO 1
theorem aPr:FAt 229 2 2:=faO 1
theorem fa229_3:FAt 229 3 3:=faO 1
theorem fa232_0:FAt 232 0 0:=faO 1
theorem aPk:FAt 232 1 1:=faO 1
theorem fa232_2:FAt 232 2 2:=faO 1
theorem fa269_0:FAt 269 0 0:=faO 1
theorem fa271_0:FAt 271 0 0:=faO 1
theorem fa271_1:FAt 271 1 1:=faO 1
theorem fa271_2:FAt 271 2 2:=faO 1
theorem fa273_0:FAt 273 0 0:=faO 1
theorem fa273_1:FAt 273 1 1:=faO 1
theorem fa273_2:FAt 273 2 2:=faO 1
theorem fa273_3:FAt 273 3 3:=faO 1
theorem fa273_4:FAt 273 4 4:=faO 1
theorem fa275_0:FAt 275 0 0:=faO 1
theorem fa277_0:FAt 277 0 0:=faO 1
theorem bBj:FAt 317 0 0:=faO 1
theorem bBd:FAt 317 1 1:=faO 1
theorem bBc:FAt 317 2 2:=faO 1
theorem bBg:FAt 317 3 3:=faO 1
theorem bAg:FAt 317 4 4:=faO 1
theorem fa317_5:FAt 317 5 5:=faO 1
theorem fa317_6:FAt 317 6 6:=faO 1
theorem fa338_0:FAt 338 0 0:=faO 1
theorem aId:FAt 338 1 1:=faO 1
abbrev gZ:=f1 Rp.str
abbrev fJ:=f1 dA
abbrev fK:=f1 eH
abbrev fO:=f1 Rp.bool
abbrev eF:=f1 dI
abbrev eP:=f1 dS
abbrev dE:=f1 (Rp.int .i64)
abbrev aH:=f1 aGm
abbrev sO:=f1 aK
abbrev fC:=Rt.row (Rt.of (Rp.int .i64)) 3 []
abbrev dJ:=Rt.row eQ 143 []
abbrev nN:=Rt.row (Rt.of eG) 338 []
abbrev jA:=Rt.row vU 128 []
abbrev jO:=Rt.row dO 126 []
abbrev aDl:=Rt.row (Rt.of (Rp.int .i8)) 310 []
abbrev rw_7:=Rt.row (Rt.of dS) 131 []
section
variable {O S:List Nat}{v w:World}{a b c d e f g i j k l m n o p q r s t u x y z A B C D E F G H I J K L M:Th}
abbrev hh (p:Prop):Prop:=p->p
theorem un1:hh (Hd O v w S [a]):=id
theorem un2:hh (Hd O v w S [a,b]):=id
theorem un3:hh (Hd O v w S [a,b,c]):=id
theorem un4:hh (Hd O v w S [a,b,c,d]):=id
theorem un5:hh (Hd O v w S [a,b,c,d,e]):=id
theorem un6:hh (Hd O v w S [a,b,c,d,e,f]):=id
theorem un7:hh (Hd O v w S [a,b,c,d,e,f,g]):=id
theorem un8:hh (Hd O v w S [a,b,c,d,e,f,g,i]):=id
theorem un9:hh (Hd O v w S [a,b,c,d,e,f,g,i,j]):=id
theorem aBl:hh (Hd O v w S [a,b,c,d,e,f,g,i,j,k]):=id
theorem aBy:hh (Hd O v w S [a,b,c,d,e,f,g,i,j,k,l]):=id
theorem pU:hh (Hd O v w S [a,b,c,d,e,f,g,i,j,k,l,m]):=id
theorem bW:hh (Hd O v w S [a,b,c,d,e,f,g,i,j,k,l,m,n]):=id
theorem jE:hh (Hd O v w S [a,b,c,d,e,f,g,i,j,k,l,m,n,o]):=id
theorem aAj:hh (Hd O v w S [a,b,c,d,e,f,g,i,j,k,l,m,n,o,p]):=id
theorem rW:hh (Hd O v w S [a,b,c,d,e,f,g,i,j,k,l,m,n,o,p,q]):=id
theorem aO:hh (Hd O v w S [a,b,c,d,e,f,g,i,j,k,l,m,n,o,p,q,r]):=id
theorem sN:hh (Hd O v w S [a,b,c,d,e,f,g,i,j,k,l,m,n,o,p,q,r,s]):=id
theorem aVm:hh (Hd O v w S [a,b,c,d,e,f,g,i,j,k,l,m,n,o,p,q,r,s,t]):=id
theorem un20:hh (Hd O v w S [a,b,c,d,e,f,g,i,j,k,l,m,n,o,p,q,r,s,t,u]):=id
theorem un21:hh (Hd O v w S [a,b,c,d,e,f,g,i,j,k,l,m,n,o,p,q,r,s,t,u,x]):=id
theorem un22:hh (Hd O v w S [a,b,c,d,e,f,g,i,j,k,l,m,n,o,p,q,r,s,t,u,x,y]):=id
theorem un23:hh (Hd O v w S [a,b,c,d,e,f,g,i,j,k,l,m,n,o,p,q,r,s,t,u,x,y,z]):=id
theorem un24:hh (Hd O v w S [a,b,c,d,e,f,g,i,j,k,l,m,n,o,p,q,r,s,t,u,x,y,z,A]):=id
theorem un25:hh (Hd O v w S [a,b,c,d,e,f,g,i,j,k,l,m,n,o,p,q,r,s,t,u,x,y,z,A,B]):=id
theorem un26:hh (Hd O v w S [a,b,c,d,e,f,g,i,j,k,l,m,n,o,p,q,r,s,t,u,x,y,z,A,B,C]):=id
theorem un27:hh (Hd O v w S [a,b,c,d,e,f,g,i,j,k,l,m,n,o,p,q,r,s,t,u,x,y,z,A,B,C,D]):=id
theorem un36:hh (Hd O v w S [a,b,c,d,e,f,g,i,j,k,l,m,n,o,p,q,r,s,t,u,x,y,z,A,B,C,D,E,F,G,H,I,J,K,L,M]):=id
end
section
variable {P:Program}{N:Nat}{ops:Array Oper}{Q:Exit->Env->World->Prop}{rest:List Oper}{ρ:Env}{w:World}{d f:Nat}{t u ty tz:TypeId}{x y:Operand}{pos qos:String}{af bf:Array Edge}{g h:Option (Nat×Bool)}{b o m i:Nat}
theorem nf (hx:ev ρ x= .pointer (some ⟨b,o,none⟩))(fa:FAt t i m)(n:RL Tryz.prog N ops Q rest (upd (upd ρ d (.pointer (some ⟨b,o,none⟩))) f (.pointer (some ⟨b,o+m,none⟩))) w)(hy:ev (upd ρ d (.pointer (some ⟨b,o,none⟩))) y= .pointer (some ⟨b,o,none⟩):=by exact rfl)(hw:dD N ops ρ ⟨some d,.nilCheck x,ty,pos,af,g⟩=true:=by exact rfl)(hd:Nat.blt d N=true:=by exact rfl)(hv:dD N ops (upd ρ d (.pointer (some ⟨b,o,none⟩))) ⟨some f,.fieldAddr t y i,tz,qos,bf,h⟩=true:=by exact rfl)(hf:Nat.blt f N=true:=by exact rfl):RL Tryz.prog N ops Q (⟨some d,.nilCheck x,ty,pos,af,g⟩::⟨some f,.fieldAddr t y i,tz,qos,bf,h⟩::rest) ρ w:=zN (cZ hx) (zN (fa hy) n hv hf) hw hd
theorem Xn {I:World->Prop}{κ:List MxM.Kd}{K:MxM.Mm->Env->World->Prop}{k q:Nat}{M:MxM.Mm}{σ:List Nat}(hx:ev ρ x= .pointer (some ⟨b,o,none⟩))(fa:FAt t i m)(n:MxM.XL Tryz.prog I N ops κ K M σ rest (upd (upd ρ d (.pointer (some ⟨b,o,none⟩))) f (.pointer (some ⟨b,o+m,none⟩))) w)(hy:ev (upd ρ d (.pointer (some ⟨b,o,none⟩))) y= .pointer (some ⟨b,o,none⟩):=by exact rfl)(hk:MxM.kdOf κ k= .pure:=by exact rfl)(hq:MxM.kdOf κ q= .pure:=by exact rfl)(hw:dD N ops ρ ⟨some d,.nilCheck x,ty,pos,af,g⟩=true:=by exact rfl)(hd:Nat.blt d N=true:=by exact rfl)(hv:dD N ops (upd ρ d (.pointer (some ⟨b,o,none⟩))) ⟨some f,.fieldAddr t y i,tz,qos,bf,h⟩=true:=by exact rfl)(hf:Nat.blt f N=true:=by exact rfl):MxM.XL Tryz.prog I N ops κ K M (k::q::σ) (⟨some d,.nilCheck x,ty,pos,af,g⟩::⟨some f,.fieldAddr t y i,tz,qos,bf,h⟩::rest) ρ w:=XQ (cZ hx) (XQ (fa hy) n hq hv hf) hk hw hd
theorem nJ {I:World->Prop}{κ:List MxM.Kd}{K:MxM.Mm->Env->World->Prop}{M:MxM.Mm}{σ O S:List Nat}{v u:World}{l r:List Th}(G:Hd O v u S r)(H:Hd O u w (bks r) l)(n: ∀a,Hd O v a S l->K M ρ a):MxM.XL P I N ops κ K M σ [] ρ w:=MxM.xR λa s=>n a (G.rj (H.Z s))
theorem RH {O S bs:List Nat}{v:World}{l:List Th}{α:Type}{R:Go.Lf.Rt α}{e:TypeId}{D:Hol}{c:List Value}{xl:List α}{j:Int}{a:α}{z y:Value}{n p:Nat}(f:bK P t)(H:Hd O v w S l)(i q:Nat)(hi:l[i]? =some (.tr (Rt.row R e ((j.toNat,c)::D)) [z] bs xl))(hv:z= .slice (some ⟨b,o,none⟩) n p)(hx:at' xl j=some a)(hq:c[q]? =some y)(k:RL P N ops Q rest (upd ρ d y) w)(he:ev ρ x= .pointer (some ⟨b,o+j.toNat*R.sz+q,none⟩):=by exact rfl)(hw:dD N ops ρ ⟨some d,.load t x,ty,pos,af,g⟩=true:=by exact rfl)(hd:Nat.blt d N=true:=by exact rfl):RL P N ops Q (⟨some d,.load t x,ty,pos,af,g⟩::rest) ρ w:=zN (yM f he (Cells.get (H.holeW i hi hv hx Z kL) hq)) k hw hd
theorem XH {h:World}{r:List Nat}{κ:List MxM.Kd}{K:MxM.Mm->Env->World->Prop}{k:Nat}{M:MxM.Mm}{σ O S bs:List Nat}{v:World}{l:List Th}{α:Type}{R:Go.Lf.Rt α}{e:TypeId}{D:Hol}{c:List Value}{xl:List α}{j:Int}{a:α}{z y:Value}{n p:Nat}(u:bK P t)(H:Hd O v w S l)(i q:Nat)(hi:l[i]? =some (.tr (Rt.row R e ((j.toNat,c)::D)) [z] bs xl))(hv:z= .slice (some ⟨b,o,none⟩) n p)(hx:at' xl j=some a)(hq:c[q]? =some y)(m:MxM.XL P (λf=>Only r h f) N ops κ K M σ rest (upd ρ d y) w)(he:ev ρ x= .pointer (some ⟨b,o+j.toNat*R.sz+q,none⟩):=by exact rfl)(hk:MxM.kdOf κ k= .read:=by exact rfl)(hw:dD N ops ρ ⟨some d,.load t x,ty,pos,af,g⟩=true:=by exact rfl)(hd:Nat.blt d N=true:=by exact rfl):MxM.XL P (λf=>Only r h f) N ops κ K M (k::σ) (⟨some d,.load t x,ty,pos,af,g⟩::rest) ρ w:=MxM.xO oS hk hw hd (λ_ s=>yM u he (Cells.get ((H.Z s).holeW i hi hv hx rfl kL) hq)) m
end
theorem _root_.Go.Lf.Hd.im {O S:List Nat}{v w:World}{l:List Th}(H:Hd O v w S l)(i:Nat){it:Th}(h:l[i]? =some it):it.holds (frees O l) w:=H.V h
theorem _root_.Go.Lf.Hm.im {n:Nat}{A:Nat->Prop}{O S:List Nat}{v w:World}{l:List Th}(H:Hm n A O v w S l)(i:Nat){it:Th}(h:l[i]? =some it):it.holds (frm O l v) w:=H.V h
theorem p1z {P:Program}{R:Ending->World->Prop}{ρ:Env}{w:World}{rs:Array ResultVar}{t:Tmp}{v:Value}(h:R (.returned v) w)(hr:rs= #[.tmp t]:=by exact rfl)(a:ρ t=v:=by exact rfl):wS P rs R .ret ρ w:=aJw hr a h
abbrev bkE (b:Nat)(c d e f g h i j k l:Value)(x:gG):Th:= .blk b [c,d,e,f,g,h,i6 x.frames,i,j,i6 x.first,k,l] 135
abbrev bkC (b:Nat)(v:Value)(c:Cond):Th:= .blk b [i6 c.Kind,sb c.Name,sb c.Other,i6 c.Op,i6 c.N,i6 c.Frames,v] 139
abbrev bkR (b:Nat)(c d e:Value)(x:gJ):Th:= .blk b [sb x.text,i6 x.at_,i6 x.now.kind,i6 x.now.at_,i6 x.now.n,sb x.now.text,c,d,e] 186
theorem en18:En 18:=fU Tryz.func18
theorem en34:En 34:=fU Tryz.func34
theorem en48:En 48:=fU Tryz.func48
theorem en55:En 55:=fU Tryz.func55
theorem en74:En 74:=fU Tryz.func74
theorem aWq:En 76:=fU Tryz.func76
theorem en78:En 78:=fU Tryz.func78
theorem aOi:En 101:=fU Tryz.func101
theorem aZx:En 102:=fU Tryz.func102
theorem en111:En 111:=fU Tryz.func111
theorem en119:En 119:=fU Tryz.func119
theorem en124:En 124:=fU Tryz.func124
theorem en126:En 126:=fU Tryz.func126
theorem aNt:En 130:=fU Tryz.func130
theorem en132:En 132:=fU Tryz.func132
theorem aVo:En 137:=fU Tryz.func137
theorem aLg:En 138:=fU Tryz.func138
theorem en139:En 139:=fU Tryz.func139
theorem en140:En 140:=fU Tryz.func140
theorem en141:En 141:=fU Tryz.func141
theorem en142:En 142:=fU Tryz.func142
theorem en145:En 145:=fU Tryz.func145
theorem en154:En 154:=fU Tryz.func154
theorem en155:En 155:=fU Tryz.func155
theorem en156:En 156:=fU Tryz.func156
theorem aHg:En 157:=fU Tryz.func157
theorem en159:En 159:=fU Tryz.func159
theorem aLy:En 168:=fU Tryz.func168
theorem aLs:En 169:=fU Tryz.func169
theorem en170:En 170:=fU Tryz.func170
theorem en171:En 171:=fU Tryz.func171
theorem en172:En 172:=fU Tryz.func172
theorem en176:En 176:=fU Tryz.func176
theorem en179:En 179:=fU Tryz.func179
theorem en183:En 183:=fU Tryz.func183
theorem en189:En 189:=fU Tryz.func189
theorem aCb:En 190:=fU Tryz.func190
theorem en193:En 193:=fU Tryz.func193
theorem en194:En 194:=fU Tryz.func194
theorem en195:En 195:=fU Tryz.func195
theorem en196:En 196:=fU Tryz.func196
theorem en200:En 200:=fU Tryz.func200
theorem en208:En 208:=fU Tryz.func208
theorem en209:En 209:=fU Tryz.func209
theorem en210:En 210:=fU Tryz.func210
theorem en212:En 212:=fU Tryz.func212
theorem bBn:En 221:=fU Tryz.func221
theorem en222:En 222:=fU Tryz.func222
theorem en223:En 223:=fU Tryz.func223
theorem aJp:En 224:=fU Tryz.func224
theorem en241:En 241:=fU Tryz.func241
theorem bAo:En 247:=fU Tryz.func247
theorem bAj:En 259:=fU Tryz.func259
theorem bBm:En 261:=fU Tryz.func261
theorem en262:En 262:=fU Tryz.func262
theorem en269:En 269:=fU Tryz.func269
theorem en313:En 313:=fU Tryz.func313
theorem en316:En 316:=fU Tryz.func316
theorem en319:En 319:=fU Tryz.func319
theorem en322:En 322:=fU Tryz.func322
theorem en324:En 324:=fU Tryz.func324
theorem en326:En 326:=fU Tryz.func326
theorem en328:En 328:=fU Tryz.func328
theorem en330:En 330:=fU Tryz.func330
theorem en331:En 331:=fU Tryz.func331
theorem en332:En 332:=fU Tryz.func332
theorem aUy:En 333:=fU Tryz.func333
theorem en335:En 335:=fU Tryz.func335
theorem en338:En 338:=fU Tryz.func338
theorem en340:En 340:=fU Tryz.func340
theorem mixed:Tryz.prog.follows .mixedOrders=true:=by kernel_rfl
theorem Fcdw (b:Int)(r:Bool)(a:Fcd b=some r)(H:Hd O w w S []):
  Rt 155 [.int .u8 b] (vb r) w O S []:=by
 unfold Fcd at a;refine CW 21 Tryz.func155 ?_;refine SR<|zA (vb false)<|RM<|bE a λe a f=>sJ H [2,3,4,5,6,7,8,9,10,11,12,13,14,15,16,17,18,19,20] [(2,vb e)] ?_ ?_;refine zD<|zB (.int .u8 b)<|wV a λn a=>bE a λh a i=>wC 4 [5,6,7,8] [(8,vb h)] (λwl=>Hd O w wl S []) ?_ ?_;refine RJ a ?_ ?_<;>intro a;refine zB (.int .u8 b)<|aDu a λj a=>pt (vb j) ?_;cases a;exact jn<|meet ⟨(zS Z yB),H.U []⟩;refine zM<|zM<|pf (vb false) ?_;cases a;exact jn<|meet ⟨(zS Z yB),H.U []⟩;rintro ρ o H;have a:=i;refine bE a λk a l=>wC 8 [9,10,11,12,13,14,15,16] [(16,vb k)] (λwl=>Hd O w wl S []) ?_ ?_;refine RJ a ?_ ?_<;>intro a;refine zM<|zM<|zM<|zM<|zM<|zM<|pt (vb true) ?_;cases a;exact jn<|meet ⟨(zS Z yB),H.U []⟩;refine zB (.int .u8 b)<|wV a λp a=>RJ a ?_ ?_<;>intro a;refine zB (.int .u8 b)<|aDu a λc a=>pt (vb c)<|pf (vb c) ?_;cases a;exact jn<|meet ⟨(zS Z yB),H.U []⟩;refine zM<|zM<|pf (vb false)<|pf (vb false) ?_;cases a;exact jn<|meet ⟨(zS Z yB),H.U []⟩;rintro ρ q H;have a:=l;refine RJ a ?_ ?_<;>intro a;refine zM<|zM<|pt (vb true)<|zA (vb true) ?_;cases a;exact jn<|mt () (H.U []);refine zB (.int .u8 b)<|fP a λd a=>pf (vb d)<|zA (vb d) ?_;cases a;exact jn<|mt () (H.U []);rintro _ ρ s H;have a:=f;cases a;exact zH<|p1z ⟨Z,H.U []⟩
theorem Fbzw (b:Str)(r:Bool)(a:Fbz b=some r)(H:Hd O w w S []):
  Rt 154 [sb b] (vb r) w O S []:=by
 unfold Fbz at a;refine CW 21 Tryz.func154 ?_;refine SR<|zA (vb false)<|RM<|SQ<|SR<|zB (sb b)<|RM<|zJ<|bE a λc a d=>sJ H [4,5,6,7,8,9,10,11,12,13,14,15,16,17,18,19,20] [(4,vb c)] ?_ ?_;refine SR<|RLb a (xW (s1:=b) (s2:=[112,104,97,115,101]) Z Z) λe a=>zA (vb e)<|RM<|WJ a ?_ ?_<;>intro a;cases a;exact js<|mt () (H.U []);refine SR<|RLb a (xW (s1:=b) (s2:=[109,111,118,101]) Z Z) λf a=>zA (vb f)<|RM<|WJ a ?_ ?_<;>intro a;cases a;exact js<|mt () (H.U []);refine SR<|RLb a (xW (s1:=b) (s2:=[114,117,108,101]) Z Z) λh a=>zA (vb h)<|RM<|WJ a ?_ ?_<;>intro a;cases a;exact js<|mt () (H.U []);refine SR<|RLb a (xW (s1:=b) (s2:=[105,102]) Z Z) λi a=>zA (vb i)<|RM<|WJ a ?_ ?_<;>intro a;cases a;exact js<|mt () (H.U []);refine SR<|RLb a (xW (s1:=b) (s2:=[111,114]) Z Z) λj a=>zA (vb j)<|RM<|WJ a ?_ ?_<;>intro a;cases a;exact js<|mt () (H.U []);refine SR<|RLb a (xW (s1:=b) (s2:=[97,110,100]) Z Z) λk a=>zA (vb k)<|RM<|WJ a ?_ ?_<;>intro a;cases a;exact js<|mt () (H.U []);refine SR<|RLb a (xW (s1:=b) (s2:=[116,114,117,101]) Z Z) λl a=>zA (vb l)<|RM<|WJ a ?_ ?_<;>intro a;cases a;exact js<|mt () (H.U []);refine SR<|RLb a (xW (s1:=b) (s2:=[102,97,108,115,101]) Z Z) λn a=>zA (vb n)<|RM<|WJ a ?_ ?_<;>intro a;cases a;exact js<|mt () (H.U []);refine SR<|RLb a (xW (s1:=b) (s2:=[115,116,101,97,100,121]) Z Z) λo a=>zA (vb o)<|RM<|WJ a ?_ ?_<;>intro a
 cases a;exact js<|mt () (H.U []);refine SR<|RLb a (xW (s1:=b) (s2:=[110,111,116]) Z Z) λp a=>zA (vb p)<|RM<|WJ a ?_ ?_<;>intro a;cases a;exact js<|mt () (H.U []);refine SR<|RLb a (xW (s1:=b) (s2:=[102,111,114]) Z Z) λq a=>zA (vb q)<|RM<|WJ a ?_ ?_<;>intro a;cases a;exact js<|mt () (H.U []);refine SR<|RLb a (xW (s1:=b) (s2:=[119,105,116,104,105,110]) Z Z) λs a=>zA (vb s)<|RM<|WJ a ?_ ?_<;>intro a;cases a;exact js<|mt () (H.U []);refine SR<|RLb a (xW (s1:=b) (s2:=[99,111,117,110,116]) Z Z) λt a=>zA (vb t)<|RM<|WJ a ?_ ?_<;>intro a;cases a;exact js<|mt () (H.U []);refine SR<|RLb a (xW (s1:=b) (s2:=[111,102]) Z Z) λu a=>zA (vb u)<|RM<|WJ a ?_ ?_<;>intro a;cases a;exact js<|mt () (H.U []);refine SR<|RLb a (xW (s1:=b) (s2:=[114,105,115,101,115]) Z Z) λv a=>zA (vb v)<|RM<|WJ a ?_ ?_<;>intro a;cases a;exact js<|mt () (H.U []);refine zD<|RLb a (xW (s1:=b) (s2:=[115,105,110,99,101]) Z Z) λx a=>zA (vb x) ?_;cases a;exact jn<|mt () (H.U []);rintro _ ρ y H;have a:=d;refine WJ a ?_ ?_<;>intro a;refine SR<|zA (vb true)<|RM ?_;cases a;exact zH<|zL<|zG<|p1z ⟨Z,H.U []⟩;refine yV<|zO<|zF<|KN<|SR<|zA (vb false)<|RM ?_;cases a;exact zH<|p1z ⟨Z,H.U []⟩
theorem aWi (b p1 c:Int)(r:Bool)(a:Fan b p1 c=some r)(H:Hd O w w S []):
  Rt 76 [i6 b,i6 p1,i6 c] (vb r) w O S []:=by
 unfold Fan at a;refine CW 15 Tryz.func76 ?_;refine SR<|zA (vb false)<|RM<|bE a λe a f=>sJ H [6,7,8,9,10,11,12,13,14] [(6,vb e)] ?_ ?_;refine zD<|zB (i6 b)<|zB (i6 p1)<|wV a λh a=>RJ a (λa=>?_) (λa=>?_);refine zB (i6 b)<|zB (i6 c)<|aDu a λd a=>pt (vb d)<|zA (vb d) ?_;cases a;exact jn<|mt () (H.U []);refine zM<|zM<|zM<|pf (vb false)<|zA (vb false) ?_;cases a;exact jn<|mt () (H.U []);rintro _ ρ i H;have a:=f;cases a;exact zH<|p1z ⟨rfl,H.U []⟩
theorem Fapw (b:Str)(r:Bool)(a:Fap b=some r)(H:Hd O w w S []):
  Rt 101 [sb b] (vb r) w O S []:=by
 unfold Fap at a;refine CW 33 Tryz.func101 ?_;refine SR<|zA (vb false)<|RM<|SQ<|bE a λf a h=>sJ H [4,5,6,7,8,9,10,11,12,13,14,15,16,17,18,19,20,21] [(21,vb f)] ?_ ?_;refine zD<|zB (sb b)<|RLi a (mF (s1:=b) u9 Z) λi a=>bE a λG j a=>RC aWq (aWi i 1 30 _ j (H.W [] [])) H λI H=>aF a λJ a=>bE a λk a l=>wC 5 [8,9,10,11,12] [(12,vb k)] (λwl=>Hd O w wl S []) ?_ ?_;refine RJ a ?_ ?_<;>intro a;refine zM<|zM<|zM<|pt (vb true) ?_;cases a;exact jn<|meet ⟨(zS Z yB),H.U []⟩;refine zB (sb b)<|bE a λK n a=>zN (aCu (s1:=b) (q:=0) u9 Z Z n)<|dG a λo a=>pf (vb o) ?_;cases a;exact jn<|meet ⟨(zS Z yB),H.U []⟩;rintro ρ L H;have a:=l;refine bE a λp a s=>wC 5 [13,14,15,16,17] [(17,vb p)] (λwl=>Hd O w wl S []) ?_ ?_;refine RJ a ?_ ?_<;>intro a;refine zM<|zM<|zM<|pt (vb true) ?_;cases a;exact jn<|meet ⟨(zS Z yB),H.U []⟩;refine zB (sb b)<|bE a λM t a=>zN (aCu (s1:=b) (q:=0) u9 Z Z t)<|jX a λu a=>pf (vb u) ?_;cases a;exact jn<|meet ⟨(zS Z yB),H.U []⟩;rintro ρ N H;have a:=s;refine RJ a ?_ ?_<;>intro a;refine zM<|zM<|pt (vb true) ?_;cases a;exact jn<|mt () (H.U []);refine zB (sb b)<|bE a λv x a=>RC en154 (Fbzw b _ x (H.W [] [])) H λP H=>pf (vb v) ?_;cases a;exact jn<|mt () (H.U []);rintro _ ρ Q H;have a:=h;refine WJ a ?_ ?_<;>intro a;refine SR<|zA (vb false)<|RM ?_;cases a;exact zH<|zG<|p1z ⟨Z,H.U []⟩;refine WZ ?_;obtain⟨y,z,a⟩:=xH a;refine zW (rg [2,2,22,11]) (λ(g:Unit)=>[]) (λg wl=>Hd O w wl S []/\y ()=some r) ?_ ?_
 refine SR<|zB (sb b)<|RLi a (mF (s1:=b) u9 Z) λ_ a=>zB (i6 0)<|RM<|zJ ?_;unfold Fe6 at a;obtain⟨A,d,B,a⟩:=zZ a;refine yH (rg [2,2,24,9]) (λ(g:Nat×Int)=>[(24,i6 g.2)]) (λg wl=>Hd O w wl S []/\fH A g.1 g.2=some r) (λg=>g.1) (d,0) (zS Z yB) ⟨H.U [],a⟩ ?_;clear H a;rintro⟨d,c⟩ ρ _ ⟨H,a⟩;obtain⟨C,rfl,a⟩:=lpb B a;refine SR<|dG a λU a=>RM<|SQ<|WJ a ?_ ?_<;>intro a;refine WZ<|SQ<|zJ<|SR<|zB (i6 c)<|zA (i6 c)<|RM<|SR<|zB (sb b)<|zB (i6 c)<|bE a λD E a=>zN (aCu (s1:=b) (q:=c) u9 Z Z E)<|bE a λV F a=>RC en155 (Fcdw D _ F (H.W [] [])) H λ_ H=>aF a λ_ a=>RM<|WJ a ?_ ?_<;>intro a;refine SR<|zA (vb false)<|RM ?_;cases a;exact zH<|zL<|zG<|zG<|zL<|zG<|p1z ⟨Z,H.U []⟩;exact yV<|zO<|zF<|KN<|zD<|dH a λe a=>zB (i6 e)<|jn<|ml (C,e) (H.U []) a;exact yL<|zT<|zT<|yC<|zF<|mt () ⟨H.U [],a⟩;rintro _ ρ _ ⟨H,a⟩;have a:=xM z a;refine SR<|zA (vb true)<|RM ?_;cases a;exact zH<|p1z ⟨Z,H.U []⟩
theorem Faiw (d:List Str)(p1:Str)(c:Value)(r:Int)(a:Fai d p1=some r)(H:Hd O w w S [gZ c d]):
  Rt 48 [c,sb p1] (i6 r) w O S []:=by
 unfold Fai at a;refine CW 19 Tryz.func48 ?_;refine SR<|zA (i6 0)<|RM ?_;obtain⟨k,l,a⟩:=xH a;refine zW (rg [4,15]) (λ(g:Unit)=>[]) (λg wl=>Hd O w wl S []/\k ()=some r) ?_ ?_;refine SR<|zB c ?_;obtain⟨B,C,n⟩:=SlF.len ((H.im 0 Z));refine RLi a (yN u25 n) λD a=>zB (i6 0)<|RM<|zJ ?_;unfold Fco at a;obtain⟨o,e,p,a⟩:=zZ a;refine yH (rg [4,2,8,11]) (λ(g:Nat×Int)=>[(8,i6 g.2)]) (λg wl=>Hd O w wl S [gZ c d]/\fH o g.1 g.2=some r) (λg=>g.1) (e,0) (zS Z yB) ⟨H.U [0],a⟩ ?_;clear H a;rintro⟨e,b⟩ ρ E ⟨H,a⟩;obtain⟨q,rfl,a⟩:=lpb p a;refine SR<|dG a λF a=>RM<|SQ<|WJ a ?_ ?_<;>intro a;refine WZ<|SQ<|zJ<|SR<|zB (i6 b)<|zA (i6 b)<|RM<|SR<|zB (sb p1)<|zB c<|zB (i6 b)<|bE a λf h a=>?_;obtain⟨s,t,G,u,v,x,y,z,A⟩:=xK (H.im 0 Z) h;obtain rfl:u=[sb f]:=x;have H:=H.fz (.at s (t+b.toNat*1) _) ⟨y,z,A⟩;refine ix u25 sz9 v h<|zN (yM dM Z (Cells.get (H.im 1 Z).2.2 (i:=0) Z))<|RLb a (xW (s1:=p1) (s2:=f) Z Z) λI a=>RM<|WJ a ?_ ?_<;>intro a;refine SR<|zB (i6 b)<|zA (i6 b)<|RM ?_;cases a;exact zH<|zL<|zG<|zG<|zL<|zG<|p1z ⟨Z,H.U []⟩;exact yV<|zO<|zF<|KN<|zD<|dH a λj a=>zB (i6 j)<|jn<|ml (q,j) (H.U [0]) a;exact yL<|zT<|zT<|yC<|zF<|mt () ⟨H.U [],a⟩;rintro _ ρ J ⟨H,a⟩;have a:=xM l a;refine SR<|zA (i6 (-1))<|RM ?_;cases a;exact zH<|p1z ⟨Z,H.U []⟩
theorem Fa5w (c:List Str)(p1:Str)(b:Value)(r:Bool)(a:Fa5 c p1=some r)(H:Hd O w w S [gZ b c]):
  Rt 102 [b,sb p1] (vb r) w O S []:=by
 unfold Fa5 at a;refine CW 9 Tryz.func102 ?_;refine SR<|zA (vb false)<|RM<|SR<|zB b<|zB (sb p1)<|bE a λf d a=>RC en48 (Faiw c p1 b _ d (H.W [] [0])) H λh H=>wV a λe a=>zA (vb e)<|RM ?_;cases a;exact zH<|p1z ⟨Z,H.U []⟩
abbrev Fhj (f:Cond->Int->Int->Option (Bool×Int)):Prop:= ∀(p0:Cond) (p1:Int) (p2:Int) (v1:Value) (b3:Nat) (r:Bool×Int) (_:f p0 p1 p2=some r) (O S:List Nat) (w:World) (_:Hd O w w S [.blk b3 [i6 p2] 3,eF v1 p0.Kids]),
  Cl 200 [.agg [i6 p0.Kind,sb p0.Name,sb p0.Other,i6 p0.Op,i6 p0.N,i6 p0.Frames,v1].toArray,i6 p1,gW b3] w λe w'=>e= .returned (vb r.1)/\Hd O w w' S [.blk b3 [i6 r.2] 3]
theorem Fdhw (rfC:Cond->Int->Int->Option (Bool×Int))(rhC:Fhj rfC)(b:Cond)(p1 j:Int)(f:Value)(d:Nat)(r:Bool×Int)(a:Fdh rfC b p1 j=some r)(O S:List Nat)(w:World)(H:Hd O w w S [.blk d [i6 j] 3,eF f b.Kids]):
  Cl 200 [.agg [i6 b.Kind,sb b.Name,sb b.Other,i6 b.Op,i6 b.N,i6 b.Frames,f].toArray,i6 p1,gW d] w λe p=>e= .returned (vb r.1)/\Hd O w p S [.blk d [i6 r.2] 3]:=by
 unfold Fdh at a;refine CW 36 Tryz.func200 ?_;refine SR<|yF Z Z (xE (cs:=[i6 b.Kind,sb b.Name,sb b.Other,i6 b.Op,i6 b.N,i6 b.Frames,f]) Z H) ?_;rintro _ U ⟨q,rfl,H⟩;refine zA (vb false)<|RM<|SR<|zB (gW d)<|zN (cZ Z)<|Ld fD H 0 0 Z Z<|dH a λi a=>zN (cZ Z)<|yI Z (yY H 0 Z sz3 Z (v:=i6 i) Z Z Z) ?_;rintro V H;refine RM<|SQ<|bE a λs a t=>zW (rg [14,8]) (λ(g:Unit)=>[(21,vb s)]) (λg wl=>Hd O w wl S [.blk d [i6 i] 3,eF f b.Kids,bkC q f b]) ?_ ?_;refine zD<|zB (i6 p1)<|fP a λ_ a=>RJ a ?_ ?_<;>intro a;refine zM<|zM<|zM<|zM<|pt (vb true) ?_;cases a;exact jn<|mt () (H.U [0,1,2]);refine zB (gW d)<|zN (cZ Z)<|Ld fD H 0 0 Z Z<|jX a λu a=>pf (vb u) ?_;cases a;exact jn<|mt () (H.U [0,1,2]);rintro _ ρ _ H;have a:=t;refine WJ a ?_ ?_<;>intro a;refine SR<|zA (vb false)<|RM ?_;cases a;exact zH<|zG<|p1z ⟨Z,H.U [0]⟩;refine WZ ?_;obtain⟨x,y,a⟩:=xH a;refine zW (rg [6,1,8,1,22,14]) (λ(g:Int)=>[]) (λg wl=>Hd O w wl S [.blk d [i6 g] 3]/\x g=some r) ?_ ?_;refine SR<|zN (bF Z)<|Ld aU H 2 6 Z Z ?_;obtain⟨_,_,z⟩:=SlF.len ((H.im 1 Z));refine RLi a (yN jL z) λ_ a=>zB (i6 0)<|RM<|zJ ?_;unfold Fgw at a;obtain⟨A,k,B,a⟩:=zZ a;refine yH (rg [6,1,8,1,25,11]) (λ(g:Nat×Int×Int)=>[(25,i6 g.2.1)]) (λg wl=>Hd O w wl S [.blk d [i6 g.2.2] 3,eF f b.Kids]/\fH A g.1 (g.2.1,g.2.2)=some r) (λg=>g.1) (k,0,i) (zS Z yB) ⟨H.U [0,1],a⟩ ?_;clear H a;rintro⟨k,C,l⟩ ρ _ ⟨H,a⟩;obtain⟨D,rfl,a⟩:=lpb B a
 refine SR<|dG a λ_ a=>RM<|SQ<|WJ a ?_ ?_<;>intro a;refine WZ<|SQ<|zJ<|SR<|bE a λc n a=>?_;obtain⟨E,F,af,_,G,I,J,K,L⟩:=xK (H.im 1 Z) n;obtain⟨h,rfl,M⟩:=wF I;have H:=H.fzs [.at E (F+C.toNat*7) _,.sl dI h c.Kids] ⟨⟨J,K,L⟩,M,T1⟩;refine ix jL fZ G n<|zN (xA (yJ (cs:=[i6 c.Kind,sb c.Name,sb c.Other,i6 c.Op,i6 c.N,i6 c.Frames,h]) eU Z fZ Z (H.im 2 Z).2.2) Z)<|yF Z Z (yT kW H) ?_;rintro _ _ ⟨_,rfl,H⟩;refine yI Z (yG (vs:=[i6 c.Kind,sb c.Name,sb c.Other,i6 c.Op,i6 c.N,i6 c.Frames,h]) H 4 Z fZ Z Z Z ⟨Z,Z,Z,Z,Z,Z,(xZ (H.im 3 Z)),T1⟩ Z) ?_;rintro _ H;refine RM<|SR<|lb H 4 Z eU fZ<|zB (i6 p1)<|aAh a λP a=>zB (gW d) ?_;obtain⟨⟨_,Q⟩,R,a⟩:=yK a;refine yE Z Z (zU en200 Z) (rhC c P l h d _ R _ _ _ (H.W [0] [3])) ?_;rintro _ _ ⟨rfl,T⟩;have H:=un5<|H.back [0] [3] Z T;refine⟨_,Z,?_⟩;refine aF a λ_ a=>RM<|WJ a ?_ ?_<;>intro a;refine SR<|zA (vb false)<|RM ?_;cases a;exact zH<|zL<|zG<|zG<|zL<|zG<|p1z ⟨Z,H.U [4]⟩;exact yV<|zO<|zF<|KN<|zD<|dH a λo a=>zB (i6 o)<|jn<|ml (D,o,Q) (H.U [4,0]) a;exact yL<|zT<|zT<|yC<|zF<|mt l ⟨H.U [0],a⟩;rintro _ ρ _ ⟨H,a⟩;have a:=xM y a;refine SR<|zA (vb true)<|RM ?_;cases a;exact zH<|p1z ⟨Z,H.U [0]⟩
theorem Fjd:Fhj (Ffo):=by
 have h: ∀n,Fhj (Fau n):=by
  intro n
  induction n with
  |zero=>intro b p1 c d e r a;cases a
  |succ n ih=>intro b p1 c d e r a;exact Fdhw (Fau n) ih b p1 c d e r a
 exact h FU
theorem Faew (b:Int)(r:bJ×Bool)(a:Fae b=some r)(H:Hd O w w S []):
  Rt 235 [i6 b] (.tuple #[.agg [vb r.1.name,vb r.1.other,vb r.1.op,vb r.1.n,vb r.1.frames,i6 r.1.least,i6 r.1.most].toArray,vb r.2]) w O S []:=by
 unfold Fae at a;refine CW 41 Tryz.func235 ?_;refine SR<|yF Z Z (yT bAr H) ?_;rintro _ I ⟨c,rfl,H⟩;refine zA (vb false)<|RM<|SQ<|SR<|zB (i6 b)<|RM<|zJ<|bE a λd a e=>zW [5,6,7] (λ(g:Unit)=>[(5,vb d)]) (λg wl=>Hd O w wl S [.blk c [vb false,vb false,vb false,vb false,vb false,i6 0,i6 0] 317]) ?_ ?_;refine SR<|fP a λf a=>zA (vb f)<|RM<|WJ a ?_ ?_<;>intro a;cases a;exact js<|mt () (H.U [0]);refine zD<|fP a λh a=>zA (vb h) ?_;cases a;exact jn<|mt () (H.U [0]);rintro _ ρ J H;have a:=e;refine WJ a ?_ ?_<;>intro a;refine SR<|zN (xI (cs:=[vb false,vb false,vb false,vb false,vb false,i6 0,i6 0]) bz317)<|yI Z (yG (vs:=[vb false,vb false,vb false,vb false,vb false,i6 0,i6 0]) H 0 Z nC Z Z Z ⟨Z,Z,Z,Z,Z,Z,Z,T1⟩ Z) ?_;rintro K H;refine zA (vb true)<|RM ?_;cases a;exact zH<|zL<|zG<|jY (v1:=vb true) Z Z (yO uZ nC Z (Hbc H 0 Z)) Z ⟨Z,H.U []⟩;refine SR<|fP a λi a=>zA (vb i)<|RM<|WJ a ?_ ?_<;>intro a;refine SR<|zN (xI (cs:=[vb true,vb false,vb true,vb true,vb false,i6 0,i6 0]) (aUc _ _ _))<|yI Z (yG (vs:=[vb true,vb false,vb true,vb true,vb false,i6 0,i6 0]) H 0 Z nC Z Z Z ⟨Z,Z,Z,Z,Z,Z,Z,T1⟩ Z) ?_;rintro L H;refine zA (vb true)<|RM ?_;cases a;exact zH<|zL<|zG<|jY (v1:=vb true) Z Z (yO uZ nC Z (Hbc H 0 Z)) Z ⟨Z,H.U []⟩;refine SR<|fP a λj a=>zA (vb j)<|RM<|WJ a ?_ ?_<;>intro a;refine SR<|zN (xI (cs:=[vb true,vb true,vb true,vb false,vb false,i6 0,i6 0]) (aSz _ _ _))<|yI Z (yG (vs:=[vb true,vb true,vb true,vb false,vb false,i6 0,i6 0]) H 0 Z nC Z Z Z ⟨Z,Z,Z,Z,Z,Z,Z,T1⟩ Z) ?_
 rintro M H;refine zA (vb true)<|RM ?_;cases a;exact zH<|zL<|zG<|jY (v1:=vb true) Z Z (yO uZ nC Z (Hbc H 0 Z)) Z ⟨Z,H.U []⟩;refine SR<|fP a λk a=>zA (vb k)<|RM<|WJ a ?_ ?_<;>intro a;refine SR<|zN (xI (cs:=[vb true,vb false,vb false,vb true,vb true,i6 0,i6 0]) (aSs _ _ _))<|yI Z (yG (vs:=[vb true,vb false,vb false,vb true,vb true,i6 0,i6 0]) H 0 Z nC Z Z Z ⟨Z,Z,Z,Z,Z,Z,Z,T1⟩ Z) ?_;rintro N H;refine zA (vb true)<|RM ?_;cases a;exact zH<|zL<|zG<|jY (v1:=vb true) Z Z (yO uZ nC Z (Hbc H 0 Z)) Z ⟨Z,H.U []⟩;refine bE a λl a o=>sJ H [18,19,20] [(18,vb l)] ?_ ?_;refine SR<|fP a λp a=>zA (vb p)<|RM<|WJ a ?_ ?_<;>intro a;cases a;exact js<|mt () (H.U [0]);refine zD<|fP a λq a=>zA (vb q) ?_;cases a;exact jn<|mt () (H.U [0]);rintro _ ρ P H;have a:=o;refine WJ a ?_ ?_<;>intro a;refine SR<|zN (xI (cs:=[vb true,vb false,vb false,vb false,vb false,i6 0,i6 0]) (bt317_0 _))<|yI Z (yG (vs:=[vb true,vb false,vb false,vb false,vb false,i6 0,i6 0]) H 0 Z nC Z Z Z ⟨Z,Z,Z,Z,Z,Z,Z,T1⟩ Z) ?_;rintro Q H;refine zA (vb true)<|RM ?_;cases a;exact zH<|zL<|zG<|jY (v1:=vb true) Z Z (yO uZ nC Z (Hbc H 0 Z)) Z ⟨Z,H.U []⟩;refine bE a λs a t=>sJ H [22,23,24] [(22,vb s)] ?_ ?_;refine SR<|fP a λu a=>zA (vb u)<|RM<|WJ a ?_ ?_<;>intro a;cases a;exact js<|mt () (H.U [0]);refine zD<|fP a λv a=>zA (vb v) ?_;cases a;exact jn<|mt () (H.U [0])
 rintro _ ρ _ H;have a:=t;refine WJ a ?_ ?_<;>intro a;refine SR<|zN (xI (cs:=[vb false,vb false,vb false,vb false,vb false,i6 1,i6 1]) (aGn _ _))<|yI Z (yG (vs:=[vb false,vb false,vb false,vb false,vb false,i6 1,i6 1]) H 0 Z nC Z Z Z ⟨Z,Z,Z,Z,Z,Z,Z,T1⟩ Z) ?_;rintro _ H;refine zA (vb true)<|RM ?_;cases a;exact zH<|zL<|zG<|jY (v1:=vb true) Z Z (yO uZ nC Z (Hbc H 0 Z)) Z ⟨Z,H.U []⟩;refine bE a λx a y=>sJ H [26,27,28] [(26,vb x)] ?_ ?_;refine SR<|fP a λz a=>zA (vb z)<|RM<|WJ a ?_ ?_<;>intro a;cases a;exact js<|mt () (H.U [0]);refine zD<|fP a λA a=>zA (vb A) ?_;cases a;exact jn<|mt () (H.U [0]);rintro _ ρ U H;have a:=y;refine WJ a ?_ ?_<;>intro a;refine SR<|zN (xI (cs:=[vb false,vb false,vb false,vb false,vb false,i6 2,i6 200]) (aGn _ _))<|yI Z (yG (vs:=[vb false,vb false,vb false,vb false,vb false,i6 2,i6 200]) H 0 Z nC Z Z Z ⟨Z,Z,Z,Z,Z,Z,Z,T1⟩ Z) ?_;rintro V H;refine zA (vb true)<|RM ?_;cases a;exact zH<|zL<|zG<|jY (v1:=vb true) Z Z (yO uZ nC Z (Hbc H 0 Z)) Z ⟨Z,H.U []⟩;refine bE a λB a C=>sJ H [30,31,32] [(30,vb B)] ?_ ?_;refine SR<|fP a λD a=>zA (vb D)<|RM<|WJ a ?_ ?_<;>intro a;cases a;exact js<|mt () (H.U [0]);refine zD<|fP a λE a=>zA (vb E) ?_;cases a;exact jn<|mt () (H.U [0]);rintro _ ρ _ H;have a:=C;refine WJ a ?_ ?_<;>intro a;refine SR<|zN (xI (cs:=[vb false,vb false,vb false,vb false,vb true,i6 1,i6 1]) (aUj _ _ _))<|yI Z (yG (vs:=[vb false,vb false,vb false,vb false,vb true,i6 1,i6 1]) H 0 Z nC Z Z Z ⟨Z,Z,Z,Z,Z,Z,Z,T1⟩ Z) ?_
 rintro _ H;refine zA (vb true)<|RM ?_;cases a;exact zH<|zL<|zG<|jY (v1:=vb true) Z Z (yO uZ nC Z (Hbc H 0 Z)) Z ⟨Z,H.U []⟩;refine SR<|fP a λF a=>zA (vb F)<|RM<|WJ a ?_ ?_<;>intro a;refine SR<|zN (xI (cs:=[vb false,vb false,vb false,vb true,vb true,i6 1,i6 1]) (aMs _ _ _ _))<|yI Z (yG (vs:=[vb false,vb false,vb false,vb true,vb true,i6 1,i6 1]) H 0 Z nC Z Z Z ⟨Z,Z,Z,Z,Z,Z,Z,T1⟩ Z) ?_;rintro _ H;refine zA (vb true)<|RM ?_;cases a;exact zH<|zL<|zG<|jY (v1:=vb true) Z Z (yO uZ nC Z (Hbc H 0 Z)) Z ⟨Z,H.U []⟩;refine SR<|fP a λG a=>zA (vb G)<|RM<|WJ a ?_ ?_<;>intro a;refine SR<|zN (xI (cs:=[vb false,vb false,vb false,vb false,vb false,i6 2,i6 2]) (aGn _ _))<|yI Z (yG (vs:=[vb false,vb false,vb false,vb false,vb false,i6 2,i6 2]) H 0 Z nC Z Z Z ⟨Z,Z,Z,Z,Z,Z,Z,T1⟩ Z) ?_;rintro _ H;refine zA (vb true)<|RM ?_;cases a;exact zH<|zL<|zG<|jY (v1:=vb true) Z Z (yO uZ nC Z (Hbc H 0 Z)) Z ⟨Z,H.U []⟩;refine yV<|zO<|zF<|KN<|SR<|zN (xI (cs:=[vb false,vb false,vb false,vb false,vb false,i6 0,i6 0]) bz317)<|yI Z (yG (vs:=[vb false,vb false,vb false,vb false,vb false,i6 0,i6 0]) H 0 Z nC Z Z Z ⟨Z,Z,Z,Z,Z,Z,Z,T1⟩ Z) ?_;rintro _ H;refine zA (vb false)<|RM ?_;cases a;exact zH<|jY (v1:=vb false) Z Z (yO uZ nC Z (Hbc H 0 Z)) Z ⟨Z,H.U []⟩
theorem Fazw (c:Cond)(d:Value)(r:Int)(a:Faz c=some r)(H:Hd O w w S [eF d c.Kids]):
  Rt 201 [.agg [i6 c.Kind,sb c.Name,sb c.Other,i6 c.Op,i6 c.N,i6 c.Frames,d].toArray] (i6 r) w O S []:=by
 unfold Faz at a;refine CW 140 Tryz.func201 ?_;refine SR<|yF Z Z (xE (cs:=[i6 c.Kind,sb c.Name,sb c.Other,i6 c.Op,i6 c.N,i6 c.Frames,d]) Z H) ?_;rintro _ _ ⟨e,rfl,H⟩;refine zA (i6 0)<|RM<|SR<|zN (dY Z)<|Ld fD H 1 0 Z Z ?_;obtain⟨⟨b,h⟩,u,a⟩:=yK a;refine RC (fU Tryz.func235) (Faew c.Kind _ u (H.W [] [])) H λ_ H=>zB (.tuple #[.agg [vb b.name,vb b.other,vb b.op,vb b.n,vb b.frames,i6 b.least,i6 b.most].toArray,vb h])<|zN (yS (v:= .agg [vb b.name,vb b.other,vb b.op,vb b.n,vb b.frames,i6 b.least,i6 b.most].toArray) Z Z)<|zN (yS (v:=vb h) Z Z)<|yF Z Z (yT bAr H) ?_;rintro _ _ ⟨f,rfl,H⟩;refine yI Z (yG (vs:=[vb b.name,vb b.other,vb b.op,vb b.n,vb b.frames,i6 b.least,i6 b.most]) H 2 Z nC Z Z Z ⟨Z,Z,Z,Z,Z,Z,Z,T1⟩ Z) ?_;rintro _ H;refine zA (vb h)<|RM<|SQ<|SR<|zB (vb h)<|aF a λ_ a=>RM<|WJ a ?_ ?_<;>intro a;refine SR<|zA (i6 7)<|RM ?_;cases a;exact zH<|zG<|p1z ⟨Z,H.U []⟩;refine WZ<|SQ<|bE a λx a y=>zW (rg [13,59]) (λ(g:Unit)=>[(71,vb x)]) (λg wl=>Hd O w wl S [eF d c.Kids,bkC e d c,.blk f [vb b.name,vb b.other,vb b.op,vb b.n,vb b.frames,i6 b.least,i6 b.most] 317]) ?_ ?_;refine zD<|zN (bBj Z)<|Ld rV H 2 0 Z Z<|aF a λ_ a=>bE a λz a A=>wC 5 [16,17,18,19,20] [(20,vb z)] (λwl=>Hd O w wl S [eF d c.Kids,bkC e d c,.blk f [vb b.name,vb b.other,vb b.op,vb b.n,vb b.frames,i6 b.least,i6 b.most] 317]) ?_ ?_;refine RJ a ?_ ?_<;>intro a;refine zN (aB Z)<|Ld dM H 1 1 Z Z<|RLb a (aCi (s1:=c.Name) (s2:=[]) Z Z) λB a=>pt (vb B) ?_
 cases a;exact jn<|meet ⟨(zS Z yB),H.U [0,1,2]⟩;refine zM<|zM<|zM<|pf (vb false) ?_;cases a;exact jn<|meet ⟨(zS Z yB),H.U [0,1,2]⟩;rintro ρ _ H;have a:=A;refine bE a λC a D=>wC 10 [21,22,23,24,25,26,27,28,29,30] [(30,vb C)] (λwl=>Hd O w wl S [eF d c.Kids,bkC e d c,.blk f [vb b.name,vb b.other,vb b.op,vb b.n,vb b.frames,i6 b.least,i6 b.most] 317]) ?_ ?_;refine RJ a ?_ ?_<;>intro a;refine zM<|zM<|zM<|zM<|zM<|zM<|zM<|zM<|pt (vb true) ?_;cases a;exact jn<|meet ⟨(zS Z yB),H.U [0,1,2]⟩;refine zN (bBd Z)<|Ld rV H 2 1 Z Z<|aF a λ_ a=>RJ a ?_ ?_<;>intro a;refine zN (vW Z)<|Ld dM H 1 2 Z Z<|RLb a (aCi (s1:=c.Other) (s2:=[]) Z Z) λk a=>pt (vb k)<|pf (vb k) ?_;cases a;exact jn<|meet ⟨(zS Z yB),H.U [0,1,2]⟩;refine zM<|zM<|zM<|pf (vb false)<|pf (vb false) ?_;cases a;exact jn<|meet ⟨(zS Z yB),H.U [0,1,2]⟩;rintro ρ a0 H;have a:=D;refine bE a λE a F=>wC 10 [31,32,33,34,35,36,37,38,39,40] [(40,vb E)] (λwl=>Hd O w wl S [eF d c.Kids,bkC e d c,.blk f [vb b.name,vb b.other,vb b.op,vb b.n,vb b.frames,i6 b.least,i6 b.most] 317]) ?_ ?_;refine RJ a ?_ ?_<;>intro a;refine zM<|zM<|zM<|zM<|zM<|zM<|zM<|zM<|pt (vb true) ?_;cases a;exact jn<|meet ⟨(zS Z yB),H.U [0,1,2]⟩;refine zN (bBc Z)<|Ld rV H 2 2 Z Z<|aF a λ_ a=>RJ a ?_ ?_<;>intro a;refine zN (qX Z)<|Ld fD H 1 3 Z Z<|kM a λl a=>pt (vb l)<|pf (vb l) ?_;cases a;exact jn<|meet ⟨(zS Z yB),H.U [0,1,2]⟩
 refine zM<|zM<|zM<|pf (vb false)<|pf (vb false) ?_;cases a;exact jn<|meet ⟨(zS Z yB),H.U [0,1,2]⟩;rintro ρ a2 H;have a:=F;refine bE a λG a I=>wC 10 [41,42,43,44,45,46,47,48,49,50] [(50,vb G)] (λwl=>Hd O w wl S [eF d c.Kids,bkC e d c,.blk f [vb b.name,vb b.other,vb b.op,vb b.n,vb b.frames,i6 b.least,i6 b.most] 317]) ?_ ?_;refine RJ a ?_ ?_<;>intro a;refine zM<|zM<|zM<|zM<|zM<|zM<|zM<|zM<|pt (vb true) ?_;cases a;exact jn<|meet ⟨(zS Z yB),H.U [0,1,2]⟩;refine zN (bBg Z)<|Ld rV H 2 3 Z Z<|aF a λa3 a=>RJ a ?_ ?_<;>intro a;refine zN (kY Z)<|Ld fD H 1 4 Z Z<|kM a λo a=>pt (vb o)<|pf (vb o) ?_;cases a;exact jn<|meet ⟨(zS Z yB),H.U [0,1,2]⟩;refine zM<|zM<|zM<|pf (vb false)<|pf (vb false) ?_;cases a;exact jn<|meet ⟨(zS Z yB),H.U [0,1,2]⟩;rintro ρ a4 H;have a:=I;refine bE a λJ a K=>wC 10 [51,52,53,54,55,56,57,58,59,60] [(60,vb J)] (λwl=>Hd O w wl S [eF d c.Kids,bkC e d c,.blk f [vb b.name,vb b.other,vb b.op,vb b.n,vb b.frames,i6 b.least,i6 b.most] 317]) ?_ ?_;refine RJ a ?_ ?_<;>intro a;refine zM<|zM<|zM<|zM<|zM<|zM<|zM<|zM<|pt (vb true) ?_;cases a;exact jn<|meet ⟨(zS Z yB),H.U [0,1,2]⟩;refine zN (bAg Z)<|Ld rV H 2 4 Z Z<|aF a λa5 a=>RJ a ?_ ?_<;>intro a;refine zN (kR Z)<|Ld fD H 1 5 Z Z<|kM a λp a=>pt (vb p)<|pf (vb p) ?_;cases a;exact jn<|meet ⟨(zS Z yB),H.U [0,1,2]⟩;refine zM<|zM<|zM<|pf (vb false)<|pf (vb false) ?_;cases a;exact jn<|meet ⟨(zS Z yB),H.U [0,1,2]⟩
 rintro ρ _ H;have a:=K;refine RJ a ?_ ?_<;>intro a;refine zM<|zM<|zM<|zM<|zM<|zM<|zM<|zM<|zM<|pt (vb true) ?_;cases a;exact jn<|mt () (H.U [0,1,2]);refine zN (bF Z)<|Ld aU H 1 6 Z Z ?_;obtain⟨_,_,L⟩:=SlF.len ((H.im 0 Z));refine RLi a (yN jL L) λM a=>zN (fa317_5 Z)<|Ld fD H 2 5 Z Z<|zN (fa317_6 Z)<|Ld fD H 2 6 Z Z<|bE a λa9 P a=>RC aWq (aWi M b.least b.most _ P (H.W [] [])) H λ_ H=>aF a λQ a=>pf (vb Q) ?_;cases a;exact jn<|mt () (H.U [0,1,2]);rintro _ ρ _ H;have a:=y;refine WJ a ?_ ?_<;>intro a;refine SR<|zA (i6 2)<|RM ?_;cases a;exact zH<|zG<|p1z ⟨Z,H.U []⟩;refine WZ<|SQ<|zJ<|bE a λR a T=>sJ H [72,73,74,75,76,77,78,79,80,81,82,83,84,85,86,87,88,89,90] [(72,vb R)] ?_ ?_;refine zD<|zN (bBj Z)<|Ld rV H 2 0 Z Z<|bE a λU a V=>wC 6 [75,76,77,78,79,80] [(80,vb U)] (λwl=>Hd O w wl S [eF d c.Kids,bkC e d c,.blk f [vb b.name,vb b.other,vb b.op,vb b.n,vb b.frames,i6 b.least,i6 b.most] 317]) ?_ ?_;refine RJ a ?_ ?_<;>intro a;refine zN (aB Z)<|Ld dM H 1 1 Z Z<|bE a λ_ X a=>RC aOi (Fapw c.Name _ X (H.W [] [])) H λ_ H=>aF a λY a=>pt (vb Y) ?_;cases a;exact jn<|meet ⟨(zS Z yB),H.U [0,1,2]⟩;refine zM<|zM<|zM<|zM<|pf (vb false) ?_;cases a;exact jn<|meet ⟨(zS Z yB),H.U [0,1,2]⟩;rintro ρ _ H;have a:=V;refine RJ a ?_ ?_<;>intro a;refine zM<|zM<|zM<|zM<|zM<|zM<|zM<|zM<|pt (vb true)<|zA (vb true) ?_;cases a;exact jn<|mt () (H.U [0,1,2])
 refine zN (bBd Z)<|Ld rV H 2 1 Z Z<|RJ a ?_ ?_<;>intro a;refine zN (vW Z)<|Ld dM H 1 2 Z Z<|bE a λbf aa a=>RC aOi (Fapw c.Other _ aa (H.W [] [])) H λ_ H=>aF a λi a=>pt (vb i)<|pf (vb i)<|zA (vb i) ?_;cases a;exact jn<|mt () (H.U [0,1,2]);refine zM<|zM<|zM<|zM<|pf (vb false)<|pf (vb false)<|zA (vb false) ?_;cases a;exact jn<|mt () (H.U [0,1,2]);rintro _ ρ _ H;have a:=T;refine WJ a ?_ ?_<;>intro a;refine SR<|zA (i6 8)<|RM ?_;cases a;exact zH<|zL<|zG<|p1z ⟨Z,H.U []⟩;refine bE a λab a ac=>sJ H [91,92,93,94,95,96,97,98,99] [(91,vb ab)] ?_ ?_;refine zD<|zN (bBc Z)<|Ld rV H 2 2 Z Z<|RJ a ?_ ?_<;>intro a;refine zN (qX Z)<|Ld fD H 1 3 Z Z<|bE a λ_ ad a=>RC aWq (aWi c.Op 1 6 _ ad (H.W [] [])) H λ_ H=>aF a λq a=>pt (vb q)<|zA (vb q) ?_;cases a;exact jn<|mt () (H.U [0,1,2]);refine zM<|zM<|zM<|zM<|pf (vb false)<|zA (vb false) ?_;cases a;exact jn<|mt () (H.U [0,1,2]);rintro _ ρ _ H;have a:=ac;refine WJ a ?_ ?_<;>intro a;refine SR<|zA (i6 7)<|RM ?_;cases a;exact zH<|zL<|zG<|p1z ⟨Z,H.U []⟩;refine bE a λae a af=>sJ H [100,101,102,103,104,105,106,107,108] [(100,vb ae)] ?_ ?_;refine zD<|zN (bAg Z)<|Ld rV H 2 4 Z Z<|RJ a ?_ ?_<;>intro a;refine zN (kR Z)<|Ld fD H 1 5 Z Z<|bE a λ_ ag a=>RC aWq (aWi c.Frames 1 4096 _ ag (H.W [] [])) H λ_ H=>aF a λs a=>pt (vb s)<|zA (vb s) ?_;cases a;exact jn<|mt () (H.U [0,1,2])
 refine zM<|zM<|zM<|zM<|pf (vb false)<|zA (vb false) ?_;cases a;exact jn<|mt () (H.U [0,1,2]);rintro _ ρ _ H;have a:=af;refine WJ a ?_ ?_<;>intro a;refine SR<|zA (i6 9)<|RM ?_;cases a;exact zH<|zL<|zG<|p1z ⟨Z,H.U []⟩;refine bE a λah a ai=>sJ H [109,110,111,112,113,114,115,116,117,118,119,120] [(109,vb ah)] ?_ ?_;refine zD<|zN (dY Z)<|Ld fD H 1 0 Z Z<|fP a λ_ a=>RJ a ?_ ?_<;>intro a;refine zN (kY Z)<|Ld fD H 1 4 Z Z<|zN (kR Z)<|Ld fD H 1 5 Z Z<|bE a λ_ aj a=>RC aWq (aWi c.N 1 c.Frames _ aj (H.W [] [])) H λ_ H=>aF a λt a=>pt (vb t)<|zA (vb t) ?_;cases a;exact jn<|mt () (H.U [0,1,2]);refine zM<|zM<|zM<|zM<|zM<|zM<|pf (vb false)<|zA (vb false) ?_;cases a;exact jn<|mt () (H.U [0,1,2]);rintro _ ρ _ H;have a:=ai;refine WJ a ?_ ?_<;>intro a;refine SR<|zA (i6 9)<|RM ?_;cases a;exact zH<|zL<|zG<|p1z ⟨Z,H.U []⟩;refine bE a λak a al=>zW (rg [121,19]) (λ(g:Unit)=>[(121,vb ak)]) (λg wl=>Hd O w wl S []) ?_ ?_;refine zD<|zN (bBg Z)<|Ld rV H 2 3 Z Z<|bE a λam a an=>wC 6 [124,125,126,127,128,129] [(129,vb am)] (λwl=>Hd O w wl S [eF d c.Kids,bkC e d c,.blk f [vb b.name,vb b.other,vb b.op,vb b.n,vb b.frames,i6 b.least,i6 b.most] 317]) ?_ ?_;refine RJ a ?_ ?_<;>intro a;refine zN (kY Z)<|Ld fD H 1 4 Z Z<|bE a λ_ ao a=>RC aWq (aWi c.N (-1125899906842624) 1125899906842624 _ ao (H.W [] [])) H λ_ H=>aF a λap a=>pt (vb ap) ?_;cases a;exact jn<|meet ⟨(zS Z yB),H.U [0,1,2]⟩
 refine zM<|zM<|zM<|zM<|pf (vb false) ?_;cases a;exact jn<|meet ⟨(zS Z yB),H.U [0,1,2]⟩;rintro ρ _ H;have a:=an;refine RJ a ?_ ?_<;>intro a;refine zM<|zM<|zM<|zM<|zM<|zM<|zM<|zM<|pt (vb true)<|zA (vb true) ?_;cases a;exact jn<|mt () (H.U []);refine zN (dY Z)<|Ld fD H 1 0 Z Z<|fP a λ_ a=>RJ a ?_ ?_<;>intro a;refine zN (kY Z)<|Ld fD H 1 4 Z Z<|dG a λj a=>pt (vb j)<|pf (vb j)<|zA (vb j) ?_;cases a;exact jn<|mt () (H.U []);refine zM<|zM<|zM<|pf (vb false)<|pf (vb false)<|zA (vb false) ?_;cases a;exact jn<|mt () (H.U []);rintro _ ρ _ H;have a:=al;refine WJ a ?_ ?_<;>intro a;refine SR<|zA (i6 9)<|RM ?_;cases a;exact zH<|zL<|zG<|p1z ⟨Z,H.U []⟩;refine yV<|zO<|zF<|KN<|SR<|zA (i6 0)<|RM ?_;cases a;exact zH<|p1z ⟨Z,H.U []⟩
abbrev Fhg (f:Cond->Option Int):Prop:= ∀(p0:Cond) (v1:Value) (r:Int) (_:f p0=some r) (O S:List Nat) (w:World) (_:Hd O w w S [eF v1 p0.Kids]),
  Cl 157 [.agg [i6 p0.Kind,sb p0.Name,sb p0.Other,i6 p0.Op,i6 p0.N,i6 p0.Frames,v1].toArray,.func (.func 201) #[] #[]] w λe w'=>e= .returned (i6 r)/\Hd O w w' S []
theorem Fd7w (rfD:Cond->Option Int)(rhD:Fhg rfD)(b:Cond)(d:Value)(r:Int)(a:Fd7 rfD b=some r)(O S:List Nat)(w:World)(H:Hd O w w S [eF d b.Kids]):
  Cl 157 [.agg [i6 b.Kind,sb b.Name,sb b.Other,i6 b.Op,i6 b.N,i6 b.Frames,d].toArray,.func (.func 201) #[] #[]] w λe n=>e= .returned (i6 r)/\Hd O w n S []:=by
 unfold Fd7 at a;refine CW 29 Tryz.func157 ?_;refine SR<|yF Z Z (xE (cs:=[i6 b.Kind,sb b.Name,sb b.Other,i6 b.Op,i6 b.N,i6 b.Frames,d]) Z H) ?_;rintro _ K ⟨L,rfl,H⟩;refine zA (i6 0)<|RM<|SQ<|SR<|zB (.func (.func 201) #[] #[])<|lb H 1 Z eU fZ ?_;have o:=H;refine bE a λf p a=>yE Z Z (kQ (fU Tryz.func201) Z Z) (Fazw b d _ p (H.W [] [0])) ?_;rintro _ M ⟨rfl,q⟩;have H:=o.step (q.only:Only [] _ _);refine⟨_,Z,?_⟩;refine zA (i6 f)<|RM<|SR<|zB (i6 f)<|kM a λP a=>RM<|WJ a ?_ ?_<;>intro a;refine SR<|zB (i6 f)<|zA (i6 f)<|RM ?_;cases a;exact zH<|zG<|p1z ⟨Z,H.U []⟩;refine WZ ?_;obtain⟨s,t,a⟩:=xH a;refine zW (rg [4,1,7,2,15,14]) (λ(g:Unit)=>[]) (λg wl=>Hd O w wl S []/\s ()=some r) ?_ ?_;refine SR<|zN (bF Z)<|Ld aU H 1 6 Z Z ?_;obtain⟨Q,_,u⟩:=SlF.len ((H.im 0 Z));refine RLi a (yN jL u) λ_ a=>zB (i6 0)<|RM<|zJ ?_;unfold Fh1 at a;obtain⟨v,j,x,a⟩:=zZ a;refine yH (rg [4,1,7,2,18,11]) (λ(g:Nat×Int)=>[(18,i6 g.2)]) (λg wl=>Hd O w wl S [eF d b.Kids]/\fH v g.1 g.2=some r) (λg=>g.1) (j,0) (zS Z yB) ⟨H.U [0],a⟩ ?_;clear H a;rintro⟨j,y⟩ ρ U ⟨H,a⟩;obtain⟨z,rfl,a⟩:=lpb x a;refine SR<|dG a λV a=>RM<|SQ<|WJ a ?_ ?_<;>intro a;refine WZ<|SQ<|zJ<|SR<|bE a λc k a=>?_;obtain⟨A,B,_,_,C,D,E,F,G⟩:=xK (H.im 0 Z) k;obtain⟨h,rfl,I⟩:=wF D;have H:=H.fzs [.at A (B+y.toNat*7) _,.sl dI h c.Kids] ⟨⟨E,F,G⟩,I,T1⟩;refine ix jL fZ C k<|zN (xA (yJ (cs:=[i6 c.Kind,sb c.Name,sb c.Other,i6 c.Op,i6 c.N,i6 c.Frames,h]) eU Z fZ Z (H.im 1 Z).2.2) Z)<|yF Z Z (yT kW H) ?_
 rintro _ _ ⟨_,rfl,H⟩;refine yI Z (yG (vs:=[i6 c.Kind,sb c.Name,sb c.Other,i6 c.Op,i6 c.N,i6 c.Frames,h]) H 3 Z fZ Z Z Z ⟨Z,Z,Z,Z,Z,Z,(xZ (H.im 2 Z)),T1⟩ Z) ?_;rintro _ H;refine RM<|SR<|lb H 3 Z eU fZ<|zB (.func (.func 201) #[] #[])<|bE a λi J a=>RC aHg (rhD c h _ J _ _ _ (H.W [] [2])) H λ_ H=>zA (i6 i)<|RM<|SR<|zB (i6 i)<|kM a λ_ a=>RM<|WJ a ?_ ?_<;>intro a;refine SR<|zB (i6 i)<|zA (i6 i)<|RM ?_;cases a;exact zH<|zL<|zG<|zG<|zL<|zG<|p1z ⟨Z,H.U []⟩;exact yV<|zO<|zF<|KN<|zD<|dH a λl a=>zB (i6 l)<|jn<|ml (z,l) (H.U [0]) a;exact yL<|zT<|zT<|yC<|zF<|mt () ⟨H.U [],a⟩;rintro _ ρ af ⟨H,a⟩;have a:=xM t a;refine SR<|zA (i6 0)<|RM ?_;cases a;exact zH<|p1z ⟨Z,H.U []⟩
theorem Fjb:Fhg (Fgy):=by
 have h: ∀n,Fhg (Fb2 n):=by
  intro n
  induction n with
  |zero=>intro b c r a;cases a
  |succ n ih=>intro b c r a;exact Fd7w (Fb2 n) ih b c r a
 exact h FU
theorem Fbvw (a:Cond)(c:Value)(r:Int)(b:Fbv a=some r)(H:Hd O w w S [eF c a.Kids]):
  Rt 156 [.agg [i6 a.Kind,sb a.Name,sb a.Other,i6 a.Op,i6 a.N,i6 a.Frames,c].toArray] (i6 r) w O S []:=by
 unfold Fbv at b;refine CW 9 Tryz.func156 ?_;refine SR<|yF Z Z (xE (cs:=[i6 a.Kind,sb a.Name,sb a.Other,i6 a.Op,i6 a.N,i6 a.Frames,c]) Z H) ?_;rintro _ j ⟨k,rfl,H⟩;refine zA (i6 0)<|RM<|SR<|yF Z Z (yT zero3 H) ?_;rintro _ l ⟨d,rfl,H⟩;refine yI Z (yY H 2 Z sz3 Z (v:=i6 0) Z Z Z) ?_;rintro n H;refine RM<|SQ<|SR<|lb H 1 Z eU fZ ?_;obtain⟨⟨o,p⟩,e,b⟩:=yK b;refine yE Z Z (zU en200 Z) (Fjd a 20 0 c d _ e _ _ _ (H.W [2] [0])) ?_;rintro _ q ⟨rfl,f⟩;have H:=un3<|H.back [2] [0] Z f;refine⟨_,Z,?_⟩;refine aF b λs b=>RM<|WJ b ?_ ?_<;>intro b;refine SR<|zA (i6 3)<|RM ?_;cases b;exact zH<|zG<|p1z ⟨Z,H.U []⟩;refine WZ<|SR<|lb H 1 Z eU fZ<|bE b λh i b=>RC aHg (Fjb a c _ i _ _ _ (H.W [] [0])) H λt H=>zA (i6 h)<|RM ?_;cases b;exact zH<|p1z ⟨Z,H.U []⟩
theorem Fc4w (b:Cond)(c:Value)(r:Int)(a:Fc4 b=some r)(H:Hd O w w S [eF c b.Kids]):
  Rt 158 [.agg [i6 b.Kind,sb b.Name,sb b.Other,i6 b.Op,i6 b.N,i6 b.Frames,c].toArray] (i6 r) w O S []:=by
 unfold Fc4 at a;refine CW 11 Tryz.func158 ?_;refine SR<|yF Z Z (xE (cs:=[i6 b.Kind,sb b.Name,sb b.Other,i6 b.Op,i6 b.N,i6 b.Frames,c]) Z H) ?_;rintro _ h ⟨i,rfl,H⟩;refine zA (i6 0)<|RM<|SQ<|bE a λd a e=>zW (rg [3,8]) (λ(g:Unit)=>[(10,vb d)]) (λg wl=>Hd O w wl S []) ?_ ?_;refine zD<|zN (dY Z)<|Ld fD H 1 0 Z Z<|fP a λj a=>RJ a ?_ ?_<;>intro a;refine zM<|zM<|zM<|pt (vb true) ?_;cases a;exact jn<|mt () (H.U []);refine zN (dY Z)<|Ld fD H 1 0 Z Z<|fP a λf a=>pf (vb f) ?_;cases a;exact jn<|mt () (H.U []);rintro _ ρ k H;have a:=e;refine WJ a ?_ ?_<;>intro a;refine SR<|zA (i6 2)<|RM ?_;cases a;exact zH<|zG<|p1z ⟨Z,H.U []⟩;refine WZ<|SR<|zA (i6 0)<|RM ?_;cases a;exact zH<|p1z ⟨Z,H.U []⟩
abbrev Fh6 (f:Cond->Option Int):Prop:= ∀(p0:Cond) (v1:Value) (r:Int) (_:f p0=some r) (O S:List Nat) (w:World) (_:Hd O w w S [eF v1 p0.Kids]),
  Cl 157 [.agg [i6 p0.Kind,sb p0.Name,sb p0.Other,i6 p0.Op,i6 p0.N,i6 p0.Frames,v1].toArray,.func (.func 158) #[] #[]] w λe w'=>e= .returned (i6 r)/\Hd O w w' S []
theorem Fdbw (rfE:Cond->Option Int)(rhE:Fh6 rfE)(b:Cond)(d:Value)(r:Int)(a:Fdb rfE b=some r)(O S:List Nat)(w:World)(H:Hd O w w S [eF d b.Kids]):
  Cl 157 [.agg [i6 b.Kind,sb b.Name,sb b.Other,i6 b.Op,i6 b.N,i6 b.Frames,d].toArray,.func (.func 158) #[] #[]] w λe n=>e= .returned (i6 r)/\Hd O w n S []:=by
 unfold Fdb at a;refine CW 29 Tryz.func157 ?_;refine SR<|yF Z Z (xE (cs:=[i6 b.Kind,sb b.Name,sb b.Other,i6 b.Op,i6 b.N,i6 b.Frames,d]) Z H) ?_;rintro _ K ⟨L,rfl,H⟩;refine zA (i6 0)<|RM<|SQ<|SR<|zB (.func (.func 158) #[] #[])<|lb H 1 Z eU fZ ?_;have o:=H;refine bE a λf p a=>yE Z Z (kQ (fU Tryz.func158) Z Z) (Fc4w b d _ p (H.W [] [0])) ?_;rintro _ M ⟨rfl,q⟩;have H:=o.step (q.only:Only [] _ _);refine⟨_,Z,?_⟩;refine zA (i6 f)<|RM<|SR<|zB (i6 f)<|kM a λP a=>RM<|WJ a ?_ ?_<;>intro a;refine SR<|zB (i6 f)<|zA (i6 f)<|RM ?_;cases a;exact zH<|zG<|p1z ⟨Z,H.U []⟩;refine WZ ?_;obtain⟨s,t,a⟩:=xH a;refine zW (rg [4,1,7,2,15,14]) (λ(g:Unit)=>[]) (λg wl=>Hd O w wl S []/\s ()=some r) ?_ ?_;refine SR<|zN (bF Z)<|Ld aU H 1 6 Z Z ?_;obtain⟨Q,_,u⟩:=SlF.len ((H.im 0 Z));refine RLi a (yN jL u) λ_ a=>zB (i6 0)<|RM<|zJ ?_;unfold Fic at a;obtain⟨v,j,x,a⟩:=zZ a;refine yH (rg [4,1,7,2,18,11]) (λ(g:Nat×Int)=>[(18,i6 g.2)]) (λg wl=>Hd O w wl S [eF d b.Kids]/\fH v g.1 g.2=some r) (λg=>g.1) (j,0) (zS Z yB) ⟨H.U [0],a⟩ ?_;clear H a;rintro⟨j,y⟩ ρ U ⟨H,a⟩;obtain⟨z,rfl,a⟩:=lpb x a;refine SR<|dG a λV a=>RM<|SQ<|WJ a ?_ ?_<;>intro a;refine WZ<|SQ<|zJ<|SR<|bE a λc k a=>?_;obtain⟨A,B,_,_,C,D,E,F,G⟩:=xK (H.im 0 Z) k;obtain⟨h,rfl,I⟩:=wF D;have H:=H.fzs [.at A (B+y.toNat*7) _,.sl dI h c.Kids] ⟨⟨E,F,G⟩,I,T1⟩;refine ix jL fZ C k<|zN (xA (yJ (cs:=[i6 c.Kind,sb c.Name,sb c.Other,i6 c.Op,i6 c.N,i6 c.Frames,h]) eU Z fZ Z (H.im 1 Z).2.2) Z)<|yF Z Z (yT kW H) ?_
 rintro _ _ ⟨_,rfl,H⟩;refine yI Z (yG (vs:=[i6 c.Kind,sb c.Name,sb c.Other,i6 c.Op,i6 c.N,i6 c.Frames,h]) H 3 Z fZ Z Z Z ⟨Z,Z,Z,Z,Z,Z,(xZ (H.im 2 Z)),T1⟩ Z) ?_;rintro _ H;refine RM<|SR<|lb H 3 Z eU fZ<|zB (.func (.func 158) #[] #[])<|bE a λi J a=>RC aHg (rhE c h _ J _ _ _ (H.W [] [2])) H λ_ H=>zA (i6 i)<|RM<|SR<|zB (i6 i)<|kM a λ_ a=>RM<|WJ a ?_ ?_<;>intro a;refine SR<|zB (i6 i)<|zA (i6 i)<|RM ?_;cases a;exact zH<|zL<|zG<|zG<|zL<|zG<|p1z ⟨Z,H.U []⟩;exact yV<|zO<|zF<|KN<|zD<|dH a λl a=>zB (i6 l)<|jn<|ml (z,l) (H.U [0]) a;exact yL<|zT<|zT<|yC<|zF<|mt () ⟨H.U [],a⟩;rintro _ ρ af ⟨H,a⟩;have a:=xM t a;refine SR<|zA (i6 0)<|RM ?_;cases a;exact zH<|p1z ⟨Z,H.U []⟩
theorem Fi8:Fh6 (Fh7):=by
 have h: ∀n,Fh6 (Fbw n):=by
  intro n
  induction n with
  |zero=>intro b c r a;cases a
  |succ n ih=>intro b c r a;exact Fdbw (Fbw n) ih b c r a
 exact h FU
theorem Fctw (c:Rules)(p1:dK)(d e f b:Value)(r:Int)(a:Fct c p1=some r)(H:Hd O w w S [gZ d c.Phases,fK e c.Moves,fJ f c.Rules,eF b p1.When.Kids]):
  Rt 103 [.agg [d,e,f].toArray,.agg [sb p1.From,sb p1.To,i6 p1.When.Kind,sb p1.When.Name,sb p1.When.Other,i6 p1.When.Op,i6 p1.When.N,i6 p1.When.Frames,b].toArray] (i6 r) w O S []:=by
 unfold Fct at a;refine CW 33 Tryz.func103 ?_;refine SR<|yF Z Z (xE (cs:=[d,e,f]) Z H) ?_;rintro _ J ⟨p,rfl,H⟩;refine yF Z Z (xE (cs:=[sb p1.From,sb p1.To,i6 p1.When.Kind,sb p1.When.Name,sb p1.When.Other,i6 p1.When.Op,i6 p1.When.N,i6 p1.When.Frames,b]) Z H) ?_;rintro _ K ⟨k,rfl,H⟩;refine zA (i6 0)<|RM ?_;obtain⟨q,s,a⟩:=xH a;refine zW (rg [4,1,6,1,8,16]) (λ(g:Unit)=>[]) (λg wl=>Hd O w wl S [eF b p1.When.Kids,.blk k [sb p1.From,sb p1.To,i6 p1.When.Kind,sb p1.When.Name,sb p1.When.Other,i6 p1.When.Op,i6 p1.When.N,i6 p1.When.Frames,b] 148]/\q ()=some r) ?_ ?_;refine SR<|zN (aIx Z)<|Ld dM H 5 0 Z Z<|zN (aJe Z)<|Ld dM H 5 1 Z Z<|lE a λL t a=>?_;subst t;refine yF Z Z (kT (r:=Rp.str) (xl:=[p1.From,p1.To]) (cs:=[sb p1.From,sb p1.To]) u25 el9 (by decide) (by decide) Z (yP (vs:=[sb p1.From,sb p1.To]) (by decide) Z Z ⟨Z,Z,T1⟩ Z) H ⟨[sb p1.From],[sb p1.To],Z,Z,⟨[sb p1.To],[],Z,Z,Z⟩⟩) ?_;rintro u M H;obtain⟨P,Q,v⟩:=Sr.len (Sr.wB (H.im 6 Z));refine RLi a (yN u25 v) λ_ a=>zB (i6 0)<|RM<|zJ ?_;unfold Fhs at a;obtain⟨x,l,y,a⟩:=zZ a;refine yH (rg [4,1,6,1,14,10]) (λ(g:Nat×Int)=>[(14,i6 g.2)]) (λg wl=>Hd O w wl S [gZ d c.Phases,fK e c.Moves,fJ f c.Rules,eF b p1.When.Kids,.blk p [d,e,f] 29,.blk k [sb p1.From,sb p1.To,i6 p1.When.Kind,sb p1.When.Name,sb p1.When.Other,i6 p1.When.Op,i6 p1.When.N,i6 p1.When.Frames,b] 148,.own Rp.str u 9 ([p1.From,p1.To]:List Str)]/\fH x g.1 g.2=some r) (λg=>g.1) (l,0) (zS Z yB) ⟨H.U (rg [0,7]),a⟩ ?_
 clear H a;rintro⟨l,_⟩ ρ U ⟨H,a⟩;obtain⟨z,rfl,a⟩:=lpb y a;refine SR<|dG a λV a=>RM<|SQ<|WJ a ?_ ?_<;>intro a;refine WZ<|SQ<|zJ<|SR<|bE a λh n a=>?_;obtain⟨_,_,A,B,C,D⟩:=jB (H.im 6 Z) n;obtain rfl:A=[sb h]:=C;refine ix u25 sz9 B n<|zN (yM dM Z (Cells.get D (i:=0) Z))<|zA (sb h)<|RM<|SR<|zN (aZ Z)<|Ld kH H 4 0 Z Z<|zB (sb h)<|bE a λ_ E a=>RC aZx (Fa5w c.Phases h d _ E (H.W [] [0])) H λ_ H=>aF a λ_ a=>RM<|WJ a ?_ ?_<;>intro a;refine SR<|zA (i6 4)<|RM ?_;cases a;exact zH<|zL<|zG<|zG<|zL<|zG<|p1z ⟨Z,H.U []⟩;exact yV<|zO<|zF<|KN<|zD<|dH a λo a=>zB (i6 o)<|jn<|ml (z,o) (H.U (rg [0,7])) a;exact yL<|zT<|zT<|yC<|zF<|mt () ⟨H.U [3,5],a⟩;rintro _ ρ _ ⟨H,a⟩;have a:=xM s a;refine SQ<|SR<|zN (vX Z)<|zN (xA (yJ (cs:=[i6 p1.When.Kind,sb p1.When.Name,sb p1.When.Other,i6 p1.When.Op,i6 p1.When.N,i6 p1.When.Frames,b]) eU Z fZ Z (Cells.drop (Hbc H 1 Z) 2 7)) Z)<|bE a λj F a=>RC en156 (Fbvw p1.When b _ F (H.W [] [0])) H λ_ H=>zA (i6 j)<|RM<|SR<|zB (i6 j)<|kM a λaf a=>RM<|WJ a ?_ ?_<;>intro a;refine SR<|zB (i6 j)<|zA (i6 j)<|RM ?_;cases a;exact zH<|zG<|p1z ⟨Z,H.U []⟩;refine WZ<|SR<|zN (vX Z)<|zN (xA (yJ (cs:=[i6 p1.When.Kind,sb p1.When.Name,sb p1.When.Other,i6 p1.When.Op,i6 p1.When.N,i6 p1.When.Frames,b]) eU Z fZ Z (Cells.drop (Hbc H 1 Z) 2 7)) Z)<|bE a λG I a=>RC aHg (Fi8 p1.When b _ I _ _ _ (H.W [] [0])) H λ_ H=>zA (i6 G)<|RM ?_
 cases a;exact zH<|p1z ⟨Z,H.U []⟩
theorem Ffhw (a:dF)(b:Str)(d:Value)(e:Nat)(r:Bool)(c:Ffh a b=some r)(H:Hd O w w S [.blk e [sb b] 9,eF d a.When.Kids]):
  Rt 161 [.agg [sb a.Name,i6 a.When.Kind,sb a.When.Name,sb a.When.Other,i6 a.When.Op,i6 a.When.N,i6 a.When.Frames,d].toArray,gW e] (vb r) w O S [.blk e [sb b] 9]:=by
 unfold Ffh at c;refine CW 8 Tryz.func161 ?_;refine SR<|yF Z Z (xE (cs:=[sb a.Name,i6 a.When.Kind,sb a.When.Name,sb a.When.Other,i6 a.When.Op,i6 a.When.N,i6 a.When.Frames,d]) Z H) ?_;rintro _ h ⟨i,rfl,H⟩;refine zA (vb false)<|RM<|SR<|zN (vS Z)<|Ld dM H 2 0 Z Z<|Ld dM H 0 0 Z Z<|RLb c (xW (s1:=a.Name) (s2:=b) Z Z) λf c=>zA (vb f)<|RM ?_;cases c;exact zH<|p1z ⟨Z,H.U [0]⟩
theorem Ffuw (f:List dF)(p1c0:Str)(e:Value)(c:Nat)(r:Int)(a:Ffu f p1c0=some r)(H:Hd O w w S [.blk c [sb p1c0] 9,fJ e f]):
  Rt 202 [e,.func (.func 161) #[] #[gW c]] (i6 r) w O S [.blk c [sb p1c0] 9]:=by
 unfold Ffu at a;refine CW 19 Tryz.func202 ?_;refine SR<|zA (i6 0)<|RM ?_;obtain⟨l,n,a⟩:=xH a;refine zW (rg [4,15]) (λ(g:Unit)=>[]) (λg wl=>Hd O w wl S [.blk c [sb p1c0] 9]/\l ()=some r) ?_ ?_;refine SR<|zB e ?_;obtain⟨E,F,o⟩:=SlF.len ((H.im 1 Z));refine RLi a (yN u27 o) λG a=>zB (i6 0)<|RM<|zJ ?_;unfold Fgp at a;obtain⟨p,i,q,a⟩:=zZ a;refine yH (rg [4,2,8,11]) (λ(g:Nat×Int)=>[(8,i6 g.2)]) (λg wl=>Hd O w wl S [.blk c [sb p1c0] 9,fJ e f]/\fH p g.1 g.2=some r) (λg=>g.1) (i,0) (zS Z yB) ⟨H.U [0,1],a⟩ ?_;clear H a;rintro⟨i,d⟩ ρ I ⟨H,a⟩;obtain⟨s,rfl,a⟩:=lpb q a;refine SR<|dG a λJ a=>RM<|SQ<|WJ a ?_ ?_<;>intro a;refine WZ<|SQ<|zJ<|SR<|zB (i6 d)<|zA (i6 d)<|RM<|SR<|zB (.func (.func 161) #[] #[gW c])<|zB e<|zB (i6 d)<|bE a λb j a=>?_;obtain⟨t,u,K,L,v,x,y,z,A⟩:=xK (H.im 1 Z) j;obtain⟨h,rfl,B⟩:=aS x;have H:=H.fzs [.at t (u+d.toNat*8) _,.sl dI h b.When.Kids] ⟨⟨y,z,A⟩,B,T1⟩;refine ix u27 mO v j<|zN (xA (yJ (cs:=[sb b.Name,i6 b.When.Kind,sb b.When.Name,sb b.When.Other,i6 b.When.Op,i6 b.When.N,i6 b.When.Frames,h]) aHa Z mO Z (H.im 2 Z).2.2) Z)<|bE a λM C a=>yE Z Z (kQ (fU Tryz.func161) Z Z) (Ffhw b p1c0 h c _ C (H.W [0] [3])) ?_;rintro _ P ⟨rfl,D⟩;have H:=un4<|H.back [0] [3] Z D;refine⟨_,Z,?_⟩;refine RM<|WJ a ?_ ?_<;>intro a;refine SR<|zB (i6 d)<|zA (i6 d)<|RM ?_;cases a;exact zH<|zL<|zG<|zG<|zL<|zG<|p1z ⟨Z,H.U [3]⟩;exact yV<|zO<|zF<|KN<|zD<|dH a λk a=>zB (i6 k)<|jn<|ml (s,k) (H.U [3,0]) a
 exact yL<|zT<|zT<|yC<|zF<|mt () ⟨H.U [0],a⟩;rintro _ ρ Q ⟨H,a⟩;have a:=xM n a;refine SR<|zA (i6 (-1))<|RM ?_;cases a;exact zH<|p1z ⟨Z,H.U [0]⟩
theorem Ffjw (d:List dF)(p1c0:Str)(c:Value)(b:Nat)(r:Bool)(a:Ffj d p1c0=some r)(H:Hd O w w S [.blk b [sb p1c0] 9,fJ c d]):
  Rt 160 [c,.func (.func 161) #[] #[gW b]] (vb r) w O S [.blk b [sb p1c0] 9]:=by
 unfold Ffj at a;refine CW 9 Tryz.func160 ?_;refine SR<|zA (vb false)<|RM<|SR<|zB c<|zB (.func (.func 161) #[] #[gW b])<|bE a λi e a=>yE Z Z (zU (fU Tryz.func202) Z) (Ffuw d p1c0 c b _ e (H.W [0] [1])) ?_;rintro _ j ⟨rfl,f⟩;have H:=un2<|H.back [0] [1] Z f;refine⟨_,Z,?_⟩;refine wV a λh a=>zA (vb h)<|RM ?_;cases a;exact zH<|p1z ⟨Z,H.U [1]⟩
theorem Fcaw (c:Str)(b:Rules)(d:Int)(e:Nat)(f h i:Value)(j:Nat)(r:Bool)(a:Fca c b d=some r)(H:Hd O w w S [.blk e [f,h,i] 29,.blk j [i6 d] 3,gZ f b.Phases,fK h b.Moves,fJ i b.Rules]):
  Rt 159 [sb c,gW e,gW j] (vb r) w O S [.blk e [f,h,i] 29,.blk j [i6 d] 3]:=by
 unfold Fca at a;refine CW 11 Tryz.func159 ?_;refine SR<|yF Z Z (aCv Z Z H) ?_;rintro _ u ⟨n,rfl,H⟩;refine zA (vb false)<|RM<|SR<|zN (kC Z)<|Ld nI H 0 2 Z Z<|Ld fD H 1 0 Z Z<|bE a λk o a=>aEf Z Z (vF u27 mO (H.im 4 Z) Z Z o) ?_;rintro l p;have H:=H.fz (.sl dA l k) p;refine zN (bV Z)<|bE a λq s a=>yE Z Z (zU (fU Tryz.func160) Z) (Ffjw k c l n _ s (H.W [5] [6])) ?_;rintro _ v ⟨rfl,t⟩;have H:=un7<|H.back [5] [6] Z t;refine⟨_,Z,?_⟩;refine zA (vb q)<|RM ?_;cases a;exact zH<|p1z ⟨Z,H.U [0,1]⟩
theorem Fd8w (b:Cond)(c:Rules)(c1f1:Int)(j:Value)(d:Nat)(e h i:Value)(k f:Nat)(r:Int)(a:Fd8 b c c1f1=some r)(H:Hd O w w S [.blk d [e,h,i] 29,.blk f [i6 c1f1] 3,.blk k [.func (.func 159) #[] #[gW d,gW f]] 168,eF j b.Kids,gZ e c.Phases,fK h c.Moves,fJ i c.Rules]):
  Rt 162 [.agg [i6 b.Kind,sb b.Name,sb b.Other,i6 b.Op,i6 b.N,i6 b.Frames,j].toArray,gW d,gW k] (i6 r) w O S [.blk d [e,h,i] 29,.blk f [i6 c1f1] 3,.blk k [.func (.func 159) #[] #[gW d,gW f]] 168]:=by
 unfold Fd8 at a;refine CW 28 Tryz.func162 ?_;refine SR<|yF Z Z (xE (cs:=[i6 b.Kind,sb b.Name,sb b.Other,i6 b.Op,i6 b.N,i6 b.Frames,j]) Z H) ?_;rintro _ y ⟨n,rfl,H⟩;refine zA (i6 0)<|RM<|SQ<|bE a λo a p=>zW (rg [5,23]) (λ(g:Unit)=>[(27,vb o)]) (λg wl=>Hd O w wl S [.blk d [e,h,i] 29,gZ e c.Phases,fK h c.Moves,fJ i c.Rules,.blk f [i6 c1f1] 3,.blk k [.func (.func 159) #[] #[gW d,gW f]] 168]) ?_ ?_;refine zD<|zN (dY Z)<|Ld fD H 7 0 Z Z<|fP a λz a=>bE a λq a s=>wC 8 [8,9,10,11,12,13,14,15] [(15,vb q)] (λwl=>Hd O w wl S [.blk d [e,h,i] 29,.blk f [i6 c1f1] 3,.blk k [.func (.func 159) #[] #[gW d,gW f]] 168,eF j b.Kids,gZ e c.Phases,fK h c.Moves,fJ i c.Rules,bkC n j b]) ?_ ?_;refine RJ a ?_ ?_<;>intro a;refine zN (aZ Z)<|Ld kH H 0 0 Z Z<|zN (aB Z)<|Ld dM H 7 1 Z Z<|bE a λA t a=>RC aZx (Fa5w c.Phases b.Name e _ t (H.W [] [4])) H λB H=>aF a λu a=>pt (vb u) ?_;cases a;exact jn<|meet ⟨(zS Z yB),H.U (rg [0,8])⟩;refine zM<|zM<|zM<|zM<|zM<|zM<|pf (vb false) ?_;cases a;exact jn<|meet ⟨(zS Z yB),H.U (rg [0,8])⟩;rintro ρ C H;have a:=s;refine RJ a ?_ ?_<;>intro a;refine zM<|zM<|zM<|zM<|zM<|zM<|zM<|zM<|zM<|zM<|pt (vb true) ?_;cases a;exact jn<|mt () (H.U [0,4,5,6,1,2]);refine zN (dY Z)<|Ld fD H 7 0 Z Z<|fP a λD a=>RJ a ?_ ?_<;>intro a;refine Ld one168 H 2 0 Z Z<|zN (aB Z)<|Ld dM H 7 1 Z Z<|bE a λE v a=>yE Z Z (kQ en159 Z Z) (Fcaw b.Name c c1f1 d e h i f _ v (H.W [0,1] [4,5,6])) ?_
 rintro _ F ⟨rfl,x⟩;have H:=un8<|H.back [0,1] [4,5,6] Z x;refine⟨_,Z,?_⟩;refine aF a λl a=>pt (vb l)<|pf (vb l) ?_;cases a;exact jn<|mt () (H.U [6,2,3,4,7,0]);refine zM<|zM<|zM<|zM<|zM<|pf (vb false)<|pf (vb false) ?_;cases a;exact jn<|mt () (H.U [0,4,5,6,1,2]);rintro _ ρ G H;have a:=p;refine WJ a ?_ ?_<;>intro a;refine SR<|zA (i6 4)<|RM ?_;cases a;exact zH<|zG<|p1z ⟨Z,H.U [0,4,5]⟩;refine WZ<|SR<|zA (i6 0)<|RM ?_;cases a;exact zH<|p1z ⟨Z,H.U [0,4,5]⟩
abbrev Fim (f:Cond->Rules->Int->Option Int):Prop:= ∀(p0:Cond) (p1c0:Rules) (p1c1f1:Int) (v1:Value) (b3:Nat) (v4:Value) (v5:Value) (v6:Value) (b11:Nat) (b13:Nat) (r:Int) (_:f p0 p1c0 p1c1f1=some r) (O S:List Nat) (w:World) (_:Hd O w w S [.blk b3 [v4,v5,v6] 29,.blk b13 [i6 p1c1f1] 3,.blk b11 [.func (.func 159) #[] #[gW b3,gW b13]] 168,eF v1 p0.Kids,gZ v4 p1c0.Phases,fK v5 p1c0.Moves,fJ v6 p1c0.Rules]),
  Cl 157 [.agg [i6 p0.Kind,sb p0.Name,sb p0.Other,i6 p0.Op,i6 p0.N,i6 p0.Frames,v1].toArray,.func (.func 162) #[] #[gW b3,gW b11]] w λe w'=>e= .returned (i6 r)/\Hd O w w' S [.blk b3 [v4,v5,v6] 29,.blk b13 [i6 p1c1f1] 3,.blk b11 [.func (.func 159) #[] #[gW b3,gW b13]] 168]
theorem Fdgw (rfF:Cond->Rules->Int->Option Int)(rhF:Fim rfF)(b:Cond)(p1c0:Rules)(p1c1f1:Int)(l:Value)(d:Nat)(h i j:Value)(k f:Nat)(r:Int)(a:Fdg rfF b p1c0 p1c1f1=some r)(O S:List Nat)(w:World)(H:Hd O w w S [.blk d [h,i,j] 29,.blk f [i6 p1c1f1] 3,.blk k [.func (.func 159) #[] #[gW d,gW f]] 168,eF l b.Kids,gZ h p1c0.Phases,fK i p1c0.Moves,fJ j p1c0.Rules]):
  Cl 157 [.agg [i6 b.Kind,sb b.Name,sb b.Other,i6 b.Op,i6 b.N,i6 b.Frames,l].toArray,.func (.func 162) #[] #[gW d,gW k]] w λe u=>e= .returned (i6 r)/\Hd O w u S [.blk d [h,i,j] 29,.blk f [i6 p1c1f1] 3,.blk k [.func (.func 159) #[] #[gW d,gW f]] 168]:=by
 unfold Fdg at a;refine CW 29 Tryz.func157 ?_;refine SR<|yF Z Z (xE (cs:=[i6 b.Kind,sb b.Name,sb b.Other,i6 b.Op,i6 b.N,i6 b.Frames,l]) Z H) ?_;rintro _ _ ⟨U,rfl,H⟩;refine zA (i6 0)<|RM<|SQ<|SR<|zB (.func (.func 162) #[] #[gW d,gW k])<|lb H 7 Z eU fZ<|bE a λn v a=>yE Z Z (kQ (fU Tryz.func162) Z Z) (Fd8w b p1c0 p1c1f1 l d h i j k f _ v (H.W [0,1,2] [3,4,5,6])) ?_;rintro _ V ⟨rfl,x⟩;have H:=un8<|H.back [0,1,2] [3,4,5,6] Z x;refine⟨_,Z,?_⟩;refine zA (i6 n)<|RM<|SR<|zB (i6 n)<|kM a λ_ a=>RM<|WJ a ?_ ?_<;>intro a;refine SR<|zB (i6 n)<|zA (i6 n)<|RM ?_;cases a;exact zH<|zG<|p1z ⟨Z,H.U [5,6,7]⟩;refine WZ ?_;obtain⟨y,z,a⟩:=xH a;refine zW (rg [4,1,7,2,15,14]) (λ(g:Unit)=>[]) (λg wl=>Hd O w wl S [gZ h p1c0.Phases,fK i p1c0.Moves,fJ j p1c0.Rules,.blk d [h,i,j] 29,.blk f [i6 p1c1f1] 3,.blk k [.func (.func 159) #[] #[gW d,gW f]] 168]/\y ()=some r) ?_ ?_;refine SR<|zN (bF Z)<|Ld aU H 4 6 Z Z ?_;obtain⟨_,_,A⟩:=SlF.len ((H.im 0 Z));refine RLi a (yN jL A) λ_ a=>zB (i6 0)<|RM<|zJ ?_;unfold Fig at a;obtain⟨B,q,C,a⟩:=zZ a;refine yH (rg [4,1,7,2,18,11]) (λ(g:Nat×Int)=>[(18,i6 g.2)]) (λg wl=>Hd O w wl S [eF l b.Kids,gZ h p1c0.Phases,fK i p1c0.Moves,fJ j p1c0.Rules,.blk d [h,i,j] 29,.blk f [i6 p1c1f1] 3,.blk k [.func (.func 159) #[] #[gW d,gW f]] 168]/\fH B g.1 g.2=some r) (λg=>g.1) (q,0) (zS Z yB) ⟨H.U (rg [0,4,5,3]),a⟩ ?_;clear H a;rintro⟨q,D⟩ ρ _ ⟨H,a⟩;obtain⟨E,rfl,a⟩:=lpb C a;refine SR<|dG a λ_ a=>RM<|SQ<|WJ a ?_ ?_<;>intro a
 refine WZ<|SQ<|zJ<|SR<|bE a λc s a=>?_;obtain⟨F,G,_,af,I,J,K,L,M⟩:=xK (H.im 0 Z) s;obtain⟨o,rfl,P⟩:=wF J;have H:=H.fzs [.at F (G+D.toNat*7) _,.sl dI o c.Kids] ⟨⟨K,L,M⟩,P,T1⟩;refine ix jL fZ I s<|zN (xA (yJ (cs:=[i6 c.Kind,sb c.Name,sb c.Other,i6 c.Op,i6 c.N,i6 c.Frames,o]) eU Z fZ Z (H.im 7 Z).2.2) Z)<|yF Z Z (yT kW H) ?_;rintro _ _ ⟨_,rfl,H⟩;refine yI Z (yG (vs:=[i6 c.Kind,sb c.Name,sb c.Other,i6 c.Op,i6 c.N,i6 c.Frames,o]) H 9 Z fZ Z Z Z ⟨Z,Z,Z,Z,Z,Z,(xZ (H.im 8 Z)),T1⟩ Z) ?_;rintro _ H;refine RM<|SR<|lb H 9 Z eU fZ<|zB (.func (.func 162) #[] #[gW d,gW k])<|bE a λp Q a=>yE Z Z (zU aHg Z) (rhF c p1c0 p1c1f1 o d h i j k f _ Q _ _ _ (H.W [4,5,6] [8,1,2,3])) ?_;rintro _ _ ⟨rfl,R⟩;have H:=aBl<|H.back [4,5,6] [8,1,2,3] Z R;refine⟨_,Z,?_⟩;refine zA (i6 p)<|RM<|SR<|zB (i6 p)<|kM a λ_ a=>RM<|WJ a ?_ ?_<;>intro a;refine SR<|zB (i6 p)<|zA (i6 p)<|RM ?_;cases a;exact zH<|zL<|zG<|zG<|zL<|zG<|p1z ⟨Z,H.U [7,8,9]⟩;exact yV<|zO<|zF<|KN<|zD<|dH a λt a=>zB (i6 t)<|jn<|ml (E,t) (H.U (rg [0,4,7,3])) a;exact yL<|zT<|zT<|yC<|zF<|mt () ⟨H.U (rg [1,6]),a⟩;rintro _ ρ _ ⟨H,a⟩;have a:=xM z a;refine SR<|zA (i6 0)<|RM ?_;cases a;exact zH<|p1z ⟨Z,H.U [3,4,5]⟩
theorem Fjf:Fim (Fhz):=by
 have h: ∀n,Fim (Fce n):=by
  intro n
  induction n with
  |zero=>intro b p1c0 p1c1f1 c d e f i j k r a;cases a
  |succ n ih=>intro b p1c0 p1c1f1 c d e f i j k r a;exact Fdgw (Fce n) ih b p1c0 p1c1f1 c d e f i j k r a
 exact h FU
end Go.Proofs.YteljpoagacbmoaaGreatDoor.L
