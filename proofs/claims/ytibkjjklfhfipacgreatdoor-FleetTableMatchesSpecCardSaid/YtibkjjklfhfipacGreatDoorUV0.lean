/- Walks that the claim stands on; no condition beyond those stated. -/
import Derived.Test.YtibkjjklfhfipacGreatDoorUP
import Derived.Test.YtibkjjklfhfipacGreatDoorXVr
import Derived.Test.YtibkjjklfhfipacGreatDoorXVf
namespace Go.Proofs.YtibkjjklfhfipacGreatDoor.L
open Go.RowKit Go.OB Go.Lf
set_option maxRecDepth 100000
set_option maxHeartbeats 4000000
abbrev vb:=Value.bool
theorem T1:True:=trivial
abbrev cE (c:Cond):Cond:=Cond.mk c.Kind c.Name c.Other c.Op c.N c.Frames c.Kids
theorem Z {α:Sort _}{a:α}:a=a:=rfl
variable {O S:List Nat}{w:World}
abbrev En (f:FuncId):Prop:=Go.OB.Enters Tryz.prog f
theorem CW {P:Program}{f:FuncId}{fn:Func}{c:Code}{args:List Value}{w:World}{R:Ending->World->Prop}(N:Nat)(hf:P.funcs[f]? =some fn)(h:WP P N c (aFh P fn.results R) (bAr args) w)(hb:fn.body=some c:=by exact rfl)(hN:fn.ntmps=N:=by exact rfl)(hl:Nat.ble args.length N=true:=by exact rfl):Calls P f args.toArray w R:=rC N hf hb hN hl h
theorem mt {W:List Nat}{ρ ρ':Env}{G:Type}{S:G->List (Nat×Value)}{B:G->Prop}(g:G)(h:B g)(hs:Sl ρ' (S g):=by repeat (first |exact yT|refine yL rfl ?_))(hf:Fr W ρ ρ':=by repeat' (first |with_reducible exact aIx|refine aVs rfl ?_|refine aNh rfl rfl ?_)):Fr W ρ ρ'/\ ∃g,Sl ρ' (S g)/\B g:=⟨hf,g,hs,h⟩
theorem ml {W:List Nat}{ρ ρ':Env}{G:Type}{S:G->List (Nat×Value)}{B C:G->Prop}{μ:G->Nat}{n:Nat}(g:G)(h:B g)(c:C g)(hs:Sl ρ' (S g):=by repeat (first |exact yT|refine yL rfl ?_))(hn:μ g<n:=by exact Nat.lt_succ_self _)(hf:Fr W ρ ρ':=by repeat' (first |with_reducible exact aIx|refine aVs rfl ?_|refine aNh rfl rfl ?_)):Fr W ρ ρ'/\ ∃g,Sl ρ' (S g)/\(B g/\C g)/\μ g<n:=⟨hf,g,hs,⟨h,c⟩,hn⟩
def rg:List Nat->List Nat
 |a::n::l=>List.range' a n++rg l
 |_=>[]
section
variable {P:Program}{N:Nat}{ops:Array Oper}{Q Q':Exit->Env->World->Prop}{rest:List Oper}{ρ:Env}{w:World}{d:Nat}{op:Op}{ty:TypeId}{pos:String}{af:Array Edge}{gd:Option (Nat×Bool)}
theorem RLb {β:Type}{b:Bool}{k:Bool->Option β}{r:β}(a:gI b k=some r)(hd:Do P ⟨some d,op,ty,pos,af,gd⟩ ρ w (vb b) w)(n: ∀x,k x=some r->RL P N ops Q rest (upd ρ d (vb x)) w)(hw:fP N ops ρ ⟨some d,op,ty,pos,af,gd⟩=true:=by exact rfl)(c:Nat.blt d N=true:=by exact rfl):RL P N ops Q (⟨some d,op,ty,pos,af,gd⟩::rest) ρ w:=xQ hw c hd (n b a)
theorem RLi {β:Type}{b:Int}{kk:IntKind}{k:Int->Option β}{r:β}(a:gI b k=some r)(hd:Do P ⟨some d,op,ty,pos,af,gd⟩ ρ w (.int kk b) w)(n: ∀x,k x=some r->RL P N ops Q rest (upd ρ d (.int kk x)) w)(hw:fP N ops ρ ⟨some d,op,ty,pos,af,gd⟩=true:=by exact rfl)(c:Nat.blt d N=true:=by exact rfl):RL P N ops Q (⟨some d,op,ty,pos,af,gd⟩::rest) ρ w:=xQ hw c hd (n b a)
theorem WI {β:Type}{b:Bool}{x y:Option β}{r:β}{c:Operand}{s t:Code}(a:gQ b x y=some r)(hc:ev ρ c=vb b)(ht:x=some r->WP P N s Q ρ w)(hf:y=some r->WP P N t Q ρ w):WP P N (.cond c s t) Q ρ w:=aFf hc (λc=>ht (rY c a)) (λc=>hf (sH c a))
theorem RI {β:Type}{b:Bool}{x y:Option β}{r:β}{z:Operand}(a:gQ b x y=some r)(hx:ev ρ z=vb b)(ht:x=some r->RL P N ops Q rest (upd ρ d (vb true)) w)(hf:y=some r->RL P N ops Q rest (upd ρ d (vb false)) w)(hw:fP N ops ρ ⟨some d,.move z,ty,pos,af,gd⟩=true:=by exact rfl)(e:Nat.blt d N=true:=by exact rfl):RL P N ops Q (⟨some d,.move z,ty,pos,af,gd⟩::rest) ρ w:=aTi hw e hx (λc=>ht (rY c a)) (λc=>hf (sH c a))
theorem RC {f:FuncId}{args:Array Operand}{at_:Array TypeId}{vs:List Value}{v:Value}{O c S:List Nat}{b:World}{l:List Th}(he:Go.OB.Enters P f)(hc:Calls P f vs.toArray w λe a=>e= .returned v/\Hd c w a [] [])(H:Hd O b w S l)(k: ∀a,Hd O b a S l->RL P N ops Q rest (upd ρ d v) a)(ha:args.toList.map (ev ρ)=vs:=by exact rfl)(hw:fP N ops ρ ⟨some d,.call {callee:= .value (.func f),args:=args,argTypes:=at_},ty,pos,af,gd⟩=true:=by exact rfl)(h:Nat.blt d N=true:=by exact rfl):RL P N ops Q (⟨some d,.call {callee:= .value (.func f),args:=args,argTypes:=at_},ty,pos,af,gd⟩::rest) ρ w:=by
 refine xH hw h (yG he ha) hc ?_;rintro _ a ⟨rfl,G⟩;exact⟨_,rfl,k _ (H.step G.only)⟩
end
section
variable {P:Program}{N:Nat}{ops:Array Oper}{Q Q':Exit->Env->World->Prop}{rest:List Oper}{ρ:Env}{w:World}{d:Nat}{t u ty:TypeId}{x y:Operand}{pos:String}{af:Array Edge}{g:Option (Nat×Bool)}
def KK (P:Program)(N:Nat)(y:Code)(Q:Exit->Env->World->Prop):Env->World->Prop:=WP P N y Q
theorem SQ {x y:Code}(h:WP P N x (qE (KK P N y Q) Q) ρ w):WP P N (.seq x y) Q ρ w:=bEl h λ_ _ h=>h
theorem SR {id:Nat}{l:List Oper}{y:Code}(h:RL P N l.toArray (qE (KK P N y Q) Q) l ρ w):WP P N (.seq (.region id l.toArray false) y) Q ρ w:=SQ (zF h)
theorem RM {y:Code}(n:WP P N y Q ρ w):RL P N ops (qE (KK P N y Q) Q') [] ρ w:=yK (zG n)
theorem WZ {y:Code}(n:WP P N y Q ρ w):WP P N .skip (qE (KK P N y Q) Q') ρ w:=yI (zG n)
theorem KN {y:Code}(n:WP P N y Q ρ w):KK P N y Q ρ w:=n
theorem jn {K:Env->World->Prop}(n:K ρ w):RL P N ops (qE K Q') [] ρ w:=yK (zG n)
theorem js {K:Env->World->Prop}(n:K ρ w):WP P N .skip (qE K Q') ρ w:=yI (zG n)
theorem fV {a b:Int}{kk:IntKind}{β:Type}{k:Bool->Option β}{r:β}(c:gI (decide (a<b)) k=some r)(n: ∀x,k x=some r->RL P N ops Q rest (upd ρ d (vb x)) w)(hx:ev ρ x= .int kk a:=by exact rfl)(hy:ev ρ y= .int kk b:=by exact rfl)(hw:fP N ops ρ ⟨some d,.binOp .lss t x y u,ty,pos,af,g⟩=true:=by exact rfl)(e:Nat.blt d N=true:=by exact rfl):RL P N ops Q (⟨some d,.binOp .lss t x y u,ty,pos,af,g⟩::rest) ρ w:=RLb c (wZ hx hy) n hw e
theorem aHh {a b:Int}{kk:IntKind}{β:Type}{k:Bool->Option β}{r:β}(c:gI (decide (a<=b)) k=some r)(n: ∀x,k x=some r->RL P N ops Q rest (upd ρ d (vb x)) w)(hx:ev ρ x= .int kk a:=by exact rfl)(hy:ev ρ y= .int kk b:=by exact rfl)(hw:fP N ops ρ ⟨some d,.binOp .leq t x y u,ty,pos,af,g⟩=true:=by exact rfl)(e:Nat.blt d N=true:=by exact rfl):RL P N ops Q (⟨some d,.binOp .leq t x y u,ty,pos,af,g⟩::rest) ρ w:=RLb c (aOc hx hy) n hw e
theorem kJ {a b:Int}{kk:IntKind}{β:Type}{k:Bool->Option β}{r:β}(c:gI (decide (b<a)) k=some r)(n: ∀x,k x=some r->RL P N ops Q rest (upd ρ d (vb x)) w)(hx:ev ρ x= .int kk a:=by exact rfl)(hy:ev ρ y= .int kk b:=by exact rfl)(hw:fP N ops ρ ⟨some d,.binOp .gtr t x y u,ty,pos,af,g⟩=true:=by exact rfl)(e:Nat.blt d N=true:=by exact rfl):RL P N ops Q (⟨some d,.binOp .gtr t x y u,ty,pos,af,g⟩::rest) ρ w:=RLb c (wU hx hy) n hw e
theorem vX {a b:Int}{kk:IntKind}{β:Type}{k:Bool->Option β}{r:β}(c:gI (decide (b<=a)) k=some r)(n: ∀x,k x=some r->RL P N ops Q rest (upd ρ d (vb x)) w)(hx:ev ρ x= .int kk a:=by exact rfl)(hy:ev ρ y= .int kk b:=by exact rfl)(hw:fP N ops ρ ⟨some d,.binOp .geq t x y u,ty,pos,af,g⟩=true:=by exact rfl)(e:Nat.blt d N=true:=by exact rfl):RL P N ops Q (⟨some d,.binOp .geq t x y u,ty,pos,af,g⟩::rest) ρ w:=RLb c (aKq hx hy) n hw e
theorem fO {a b:Int}{kk:IntKind}{β:Type}{k:Bool->Option β}{r:β}(c:gI (decide (a=b)) k=some r)(n: ∀x,k x=some r->RL P N ops Q rest (upd ρ d (vb x)) w)(hx:ev ρ x= .int kk a:=by exact rfl)(hy:ev ρ y= .int kk b:=by exact rfl)(hw:fP N ops ρ ⟨some d,.binOp .eql t x y u,ty,pos,af,g⟩=true:=by exact rfl)(e:Nat.blt d N=true:=by exact rfl):RL P N ops Q (⟨some d,.binOp .eql t x y u,ty,pos,af,g⟩::rest) ρ w:=RLb c (aHi hx hy) n hw e
theorem kT {a b:Int}{kk:IntKind}{β:Type}{k:Bool->Option β}{r:β}(c:gI (decide (a≠b)) k=some r)(n: ∀x,k x=some r->RL P N ops Q rest (upd ρ d (vb x)) w)(hx:ev ρ x= .int kk a:=by exact rfl)(hy:ev ρ y= .int kk b:=by exact rfl)(hw:fP N ops ρ ⟨some d,.binOp .neq t x y u,ty,pos,af,g⟩=true:=by exact rfl)(e:Nat.blt d N=true:=by exact rfl):RL P N ops Q (⟨some d,.binOp .neq t x y u,ty,pos,af,g⟩::rest) ρ w:=RLb c (Do_neq hx hy) n hw e
theorem fU {a b:Int}{kk:IntKind}{β:Type}{k:Int->Option β}{r:β}(c:gI (kk.wrap (a+b)) k=some r)(n: ∀x,k x=some r->RL P N ops Q rest (upd ρ d (.int kk x)) w)(hx:ev ρ x= .int kk a:=by exact rfl)(hy:ev ρ y= .int kk b:=by exact rfl)(hw:fP N ops ρ ⟨some d,.binOp .add t x y u,ty,pos,af,g⟩=true:=by exact rfl)(e:Nat.blt d N=true:=by exact rfl):RL P N ops Q (⟨some d,.binOp .add t x y u,ty,pos,af,g⟩::rest) ρ w:=RLi c (uY hx hy rfl) n hw e
theorem vI {a b:Int}{kk:IntKind}{β:Type}{k:Int->Option β}{r:β}(c:gI (kk.wrap (a-b)) k=some r)(n: ∀x,k x=some r->RL P N ops Q rest (upd ρ d (.int kk x)) w)(hx:ev ρ x= .int kk a:=by exact rfl)(hy:ev ρ y= .int kk b:=by exact rfl)(hw:fP N ops ρ ⟨some d,.binOp .sub t x y u,ty,pos,af,g⟩=true:=by exact rfl)(e:Nat.blt d N=true:=by exact rfl):RL P N ops Q (⟨some d,.binOp .sub t x y u,ty,pos,af,g⟩::rest) ρ w:=RLi c (mV hx hy rfl) n hw e
theorem aRv {a b:Int}{kk:IntKind}{β:Type}{k:Int->Option β}{r:β}(c:gI (kk.wrap (a*b)) k=some r)(n: ∀x,k x=some r->RL P N ops Q rest (upd ρ d (.int kk x)) w)(hx:ev ρ x= .int kk a:=by exact rfl)(hy:ev ρ y= .int kk b:=by exact rfl)(hw:fP N ops ρ ⟨some d,.binOp .mul t x y u,ty,pos,af,g⟩=true:=by exact rfl)(e:Nat.blt d N=true:=by exact rfl):RL P N ops Q (⟨some d,.binOp .mul t x y u,ty,pos,af,g⟩::rest) ρ w:=RLi c (aWw hx hy rfl) n hw e
theorem sJ {x y:Code}{O S:List Nat}{a b:World}{T:List Th}(_:Hd O a b S T)(W:List Nat)(l:List (Nat×Value))(h:WP P N x (qE (λρ' c=>Fr W ρ ρ'/\ ∃g:Unit,Sl ρ' ((λ_=>l) g)/\(λ_ wl=>Hd O a wl S T) g c) Q) ρ w)(k: ∀(_:Unit) ρ₁ w,Hd O a w S T->WP P N y Q (over ρ ρ₁ W l) w):WP P N (.seq x y) Q ρ w:=aWm W (λ_:Unit=>l) (λ_ wl=>Hd O a wl S T) h k
theorem bE {α β:Type}{p:Prop}{x:Option α}{f:α->Option β}{r:β}(h:gB x f=some r)(k: ∀y,x=some y->f y=some r->p):p:=(yN h).elim λy q=>k y q.1 q.2
theorem lE {α β:Type}{p:Prop}{x:α}{f:α->Option β}{r:β}(h:gI x f=some r)(k: ∀y,x=y->f y=some r->p):p:=(aFt h).elim λy q=>k y q.1 q.2
theorem XQ {I:World->Prop}{κ:List MxM.Kd}{K:MxM.Mm->Env->World->Prop}{k:Nat}{M:MxM.Mm}{σ:List Nat}{v:Value}{op:Op}(h: ∀{a},Do P ⟨some d,op,ty,pos,af,g⟩ ρ a v a)(n:MxM.XL P I N ops κ K M σ rest (upd ρ d v) w)(hk:MxM.kdOf κ k= .pure:=by exact rfl)(hw:fP N ops ρ ⟨some d,op,ty,pos,af,g⟩=true:=by exact rfl)(b:Nat.blt d N=true:=by exact rfl):MxM.XL P I N ops κ K M (k::σ) (⟨some d,op,ty,pos,af,g⟩::rest) ρ w:=MxM.XL_pure hk hw b (λ_ _=>h) n
theorem dJ {b:Bool}{β:Type}{k:Bool->Option β}{r:β}(a:gI (!b) k=some r)(n: ∀x,k x=some r->RL P N ops Q rest (upd ρ d (vb x)) w)(hx:ev ρ x=vb b:=by exact rfl)(hw:fP N ops ρ ⟨some d,.unOp .not t x,ty,pos,af,g⟩=true:=by exact rfl)(c:Nat.blt d N=true:=by exact rfl):RL P N ops Q (⟨some d,.unOp .not t x,ty,pos,af,g⟩::rest) ρ w:=RLb a (aHr hx) n hw c
theorem pt (v:Value){z:Operand}(n:RL P N ops Q rest (upd ρ d v) w)(hx:ev ρ x=vb true:=by exact rfl)(hy:ev ρ y=v:=by exact rfl)(hw:fP N ops ρ ⟨some d,.pick x y z,ty,pos,af,g⟩=true:=by exact rfl)(a:Nat.blt d N=true:=by exact rfl):RL P N ops Q (⟨some d,.pick x y z,ty,pos,af,g⟩::rest) ρ w:=xQ hw a (aT hx hy) n
theorem pf (v:Value){z:Operand}(n:RL P N ops Q rest (upd ρ d v) w)(hx:ev ρ x=vb false:=by exact rfl)(hz:ev ρ z=v:=by exact rfl)(hw:fP N ops ρ ⟨some d,.pick x y z,ty,pos,af,g⟩=true:=by exact rfl)(a:Nat.blt d N=true:=by exact rfl):RL P N ops Q (⟨some d,.pick x y z,ty,pos,af,g⟩::rest) ρ w:=xQ hw a (kV hx hz) n
theorem ix {α:Type}{L:List α}{i:Int}{z:α}{e:TypeId}{b o s c:Nat}{kk:IntKind}(hu:P.underlying t=some (.slice e))(hs:Sz P e s)(hx:ev ρ x= .slice (some ⟨b,o,none⟩) L.length c)(h:at' L i=some z)(n:RL P N ops Q rest (upd ρ d (.pointer (some ⟨b,o+i.toNat*s,none⟩))) w)(hy:ev ρ y= .int kk i:=by exact rfl)(hw:fP N ops ρ ⟨some d,.indexAddr t x y,ty,pos,af,g⟩=true:=by exact rfl)(a:Nat.blt d N=true:=by exact rfl):RL P N ops Q (⟨some d,.indexAddr t x y,ty,pos,af,g⟩::rest) ρ w:=xQ hw a (yY hu hs hx hy (zU h).1 (zU h).2.1 rfl rfl) n
theorem lb {O S:List Nat}{a:World}{l:List Th}{b T n:Nat}{cs:List Value}(H:Hd O a w S l)(i:Nat)(h:l[i]? =some (.blk b cs T))(c:Agg P t)(hs:Sz P t n)(k:RL P N ops Q rest (upd ρ d (.agg cs.toArray)) w)(hx:ev ρ x= .pointer (some ⟨b,0,none⟩):=by exact rfl)(hl:cs.length=n:=by exact rfl)(hw:fP N ops ρ ⟨some d,.load t x,ty,pos,af,g⟩=true:=by exact rfl)(e:Nat.blt d N=true:=by exact rfl):RL P N ops Q (⟨some d,.load t x,ty,pos,af,g⟩::rest) ρ w:=xQ hw e (zY c hx hs hl (Blk.cells (H.V h))) k
theorem WJ {β:Type}{b:Bool}{x y:Option β}{r:β}{c:Operand}{s t:Code}(a:gQ b x y=some r)(ht:x=some r->WP P N s Q ρ w)(hf:y=some r->WP P N t Q ρ w)(hc:ev ρ c=vb b:=by exact rfl):WP P N (.cond c s t) Q ρ w:=WI a hc ht hf
theorem RJ {β:Type}{b:Bool}{x y:Option β}{r:β}{z:Operand}(a:gQ b x y=some r)(ht:x=some r->RL P N ops Q rest (upd ρ d (vb true)) w)(hf:y=some r->RL P N ops Q rest (upd ρ d (vb false)) w)(hx:ev ρ z=vb b:=by exact rfl)(hw:fP N ops ρ ⟨some d,.move z,ty,pos,af,g⟩=true:=by exact rfl)(c:Nat.blt d N=true:=by exact rfl):RL P N ops Q (⟨some d,.move z,ty,pos,af,g⟩::rest) ρ w:=RI a hx ht hf hw c
end
abbrev Sm {O S:List Nat}{v w:World}{l:List Th}(_:Hd O v w S l)(w':World)(l':List Th):Prop:=Hd O v w' S l'
section
variable {P:Program}{N:Nat}{Q:Exit->Env->World->Prop}{ρ:Env}{w wo:World}{O S:List Nat}{T:List Th}{X Y β:Type}{r:β}{c x y:Code}
abbrev pj (J:List Nat)(t T:List Th):=Go.Lf.pick J (t++T)
theorem jo (_:Hd O wo w S T)(W:List Nat)(l:Y->List (Nat×Value))(t:Y->List Th)(J:List Nat)(h:WP P N x (qE (λρ' a=>Fr W ρ ρ'/\ ∃z:Y,Sl ρ' (l z)/\Hd O wo a S (pj J (t z) T)) Q) ρ w)(k: ∀z ρ₁ w,Hd O wo w S (pj J (t z) T)->WP P N y Q (over ρ ρ₁ W (l z)) w):WP P N (.seq x y) Q ρ w:=aWm W l (λz wl=>Hd O wo wl S (pj J (t z) T)) h k
theorem jk {b:X->Option β}{m:(X->Option β)->Option β}(a:dG b m=some r)(_:Hd O wo w S T)(W:List Nat)(l:X->Y->List (Nat×Value))(t:X->Y->List Th)(J:List Nat)(h: ∀k:X->Option β,m k=some r->WP P N x (qE (λρ' c=>Fr W ρ ρ'/\ ∃u v,Sl ρ' (l u v)/\Hd O wo c S (pj J (t u v) T)/\k u=some r) Q) ρ w)(k: ∀u v ρ₁ w,Hd O wo w S (pj J (t u v) T)->b u=some r->WP P N y Q (over ρ ρ₁ W (l u v)) w):WP P N (.seq x y) Q ρ w:=by
 refine aWm (G:=X×Y) W (λg=>l g.1 g.2) (λg wl=>Hd O wo wl S (pj J (t g.1 g.2) T)/\b g.1=some r) ((h b a).mono ?_) (λg ρ₁ w hg=>k g.1 g.2 ρ₁ w hg.1 hg.2);intro e ρ' c hq
 cases e<;>first |(obtain⟨d,u,v,f,i,j⟩:=hq;exact⟨d,(u,v),f,i,j⟩)|exact hq
theorem lo {b:(X->Option β)->X->Option β}{d:X}(a:fF b d=some r)(_:Hd O wo w S T)(W:List Nat)(l:X->Y->List (Nat×Value))(t:X->Y->List Th)(J:List Nat)(f:Y)(j:Hd O wo w S (pj J (t d f) T))(n: ∀k u v ρ₁ w,Hd O wo w S (pj J (t u v) T)->b k u=some r->WP P N c (qE (λρ' i=>Fr W ρ ρ'/\ ∃u v,Sl ρ' (l u v)/\Hd O wo i S (pj J (t u v) T)/\k u=some r) Q) (over ρ ρ₁ W (l u v)) w)(hs:Sl ρ (l d f):=by repeat (first |exact yT|refine yL rfl ?_)):WP P N (.loop c) Q ρ w:=by
 obtain⟨B,m,rfl,o⟩:=bDs a;refine WP_loopS (G:=Nat×X×Y) W (λg=>l g.2.1 g.2.2) (λg wl=>Hd O wo wl S (pj J (t g.2.1 g.2.2) T)/\eX B g.1 g.2.1=some r) (λg=>g.1) (m,d,f) hs ⟨j,o⟩ ?_;rintro⟨m,u,v⟩ ρ₁ w ⟨p,h⟩;obtain⟨m,rfl,h⟩:=loopN_pos h;refine(n (eX B m) u v ρ₁ w p h).mono ?_;intro e ρ' i hq
 cases e<;>first |(obtain⟨q,u',v',s,x,y⟩:=hq;exact⟨q,(m,u',v'),s,⟨x,y⟩,Nat.lt_succ_self _⟩)|exact hq
theorem me {W:List Nat}{ρ ρ':Env}{k:X->Option β}{l:X->Y->List (Nat×Value)}{B:X->Y->Prop}{u:X}(a:k u=some r)(y:Y)(h:B u y)(hs:Sl ρ' (l u y):=by repeat (first |exact yT|refine yL rfl ?_))(hf:Fr W ρ ρ':=by repeat' (first |with_reducible exact aIx|refine aVs rfl ?_|refine aNh rfl rfl ?_)):Fr W ρ ρ'/\ ∃u v,Sl ρ' (l u v)/\B u v/\k u=some r:=⟨hf,u,y,hs,h,a⟩
end
section
variable {P:Program}{N:Nat}{ops:Array Oper}{Q:Exit->Env->World->Prop}{rest:List Oper}{ρ:Env}{w wo:World}{d dd:Nat}{op:Op}{t e tt uu ty tyy:TypeId}{x y xx:Operand}{pos poo:String}{af aff:Array Edge}{g gg:Option (Nat×Bool)}{f:FuncId}{args:Array Operand}{at_:Array TypeId}{vs:List Value}{O S:List Nat}{l:List Th}{α β A B C D:Type}{r:β}{v:Value}
theorem xu {R:World->Prop}(h: ∃a,DoU P ⟨none,op,ty,pos,af,g⟩ ρ w a/\R a)(k: ∀a,R a->RL P N ops Q rest ρ a)(hw:fP N ops ρ ⟨none,op,ty,pos,af,g⟩=true:=by exact rfl):RL P N ops Q (⟨none,op,ty,pos,af,g⟩::rest) ρ w:=RL_exU hw h k
theorem xv {R:Value->World->Prop}(h: ∃v a,Do P ⟨some d,op,ty,pos,af,g⟩ ρ w v a/\R v a)(k: ∀v a,R v a->RL P N ops Q rest (upd ρ d v) a)(hw:fP N ops ρ ⟨some d,op,ty,pos,af,g⟩=true:=by exact rfl)(hd:Nat.blt d N=true:=by exact rfl):RL P N ops Q (⟨some d,op,ty,pos,af,g⟩::rest) ρ w:=vF hw hd h k
theorem xb {R:Nat->World->Prop}(h: ∃v a,Do P ⟨some d,op,ty,pos,af,g⟩ ρ w v a/\ ∃b,v= .pointer (some ⟨b,0,none⟩)/\R b a)(k: ∀b a,R b a->RL P N ops Q rest (upd ρ d (.pointer (some ⟨b,0,none⟩))) a)(hw:fP N ops ρ ⟨some d,op,ty,pos,af,g⟩=true:=by exact rfl)(hd:Nat.blt d N=true:=by exact rfl):RL P N ops Q (⟨some d,op,ty,pos,af,g⟩::rest) ρ w:=vF hw hd h λ_ _ ⟨b,e,q⟩=>e▸k b _ q
theorem ln {L:List α}{rr:Rp α}{F:Nat->Prop}{k:Int->Option β}{b:World}(f:gI (L.length:Int) k=some r)(h:SlF rr F b v L)(hu:P.underlying t=some (.slice e))(n: ∀x,k x=some r->RL P N ops Q rest (upd ρ d (.int .i64 x)) w)(hx:ev ρ x=v:=by exact rfl)(hw:fP N ops ρ ⟨some d,.call {callee:= .builtin .len,args:= #[x],argTypes:= #[t]},ty,pos,af,g⟩=true:=by exact rfl)(i:Nat.blt d N=true:=by exact rfl):RL P N ops Q (⟨some d,.call {callee:= .builtin .len,args:= #[x],argTypes:= #[t]},ty,pos,af,g⟩::rest) ρ w:=by
 obtain⟨a,c,q⟩:=SlF.len h;exact xQ hw i (bV hu (hx.trans q)) (n _ f)
theorem lr {L:List α}{R:Go.Lf.Rt α}{D:Hol}{bs:List Nat}{F:Nat->Prop}{k:Int->Option β}{b:World}(f:gI (L.length:Int) k=some r)(h:(Rt.row R uu D).rd F b [v] bs L)(hu:P.underlying t=some (.slice e))(n: ∀x,k x=some r->RL P N ops Q rest (upd ρ d (.int .i64 x)) w)(hx:ev ρ x=v:=by exact rfl)(hw:fP N ops ρ ⟨some d,.call {callee:= .builtin .len,args:= #[x],argTypes:= #[t]},ty,pos,af,g⟩=true:=by exact rfl)(i:Nat.blt d N=true:=by exact rfl):RL P N ops Q (⟨some d,.call {callee:= .builtin .len,args:= #[x],argTypes:= #[t]},ty,pos,af,g⟩::rest) ρ w:=by
 obtain⟨a,c,q⟩:=jQ h;exact xQ hw i (bV hu (hx.trans q)) (n _ f)
theorem rea {L:List α}{a:α}{rr:Rp α}{j:Int}{kk:IntKind}(H:Hd O wo w S l)(k:SlF rr (frees O l) w v L)(z:Value)(h:at' L j=some a)(hu:P.underlying t=some (.slice e))(hs:Sz P e 1)(p:aAo P tt)(n: ∀b o,Hd O wo w S (l++[.fz (.at b (o+j.toNat*1) [z])])->RL P N ops Q rest (upd (upd ρ d (.pointer (some ⟨b,o+j.toNat*1,none⟩))) dd z) w)(hc: ∀F w cs,rr.rd F w cs a->cs=[z]:=by exact λ_ _ _ h=>h)(r:rr.sz=1:=by exact rfl)(hx:ev ρ x=v:=by exact rfl)(hy:ev ρ y= .int kk j:=by exact rfl)(s: ∀q,ev (upd ρ d q) xx=q:=by exact λ_=>rfl)(hw:fP N ops ρ ⟨some d,.indexAddr t x y,ty,pos,af,g⟩=true:=by exact rfl)(hd:Nat.blt d N=true:=by exact rfl)(hv: ∀q,fP N ops (upd ρ d q) ⟨some dd,.load tt xx,tyy,poo,aff,gg⟩=true:=by exact λ_=>rfl)(u:Nat.blt dd N=true:=by exact rfl):RL P N ops Q (⟨some d,.indexAddr t x y,ty,pos,af,g⟩::⟨some dd,.load tt xx,tyy,poo,aff,gg⟩::rest) ρ w:=by
 obtain⟨b,o,c,cs,q,A,B,C,f⟩:=yZ k h;obtain rfl:=hc _ _ _ A;rw [r]at f;refine xQ hw hd (yY hu hs (hx.trans q) hy (zU h).1 (zU h).2.1 rfl rfl) (xQ (hv _) u (yF p (s _) (Cells.get f (i:=0) rfl)) ?_);exact n b o (H.fz (.at b (o+j.toNat*1) [z]) ⟨B,C,f⟩)
theorem cAz {V:Value}{R:World->Prop}(he:Go.OB.Enters P f)(hc:Calls P f vs.toArray w λe a=>e= .returned V/\R a)(n: ∀a,R a->RL P N ops Q rest (upd ρ d V) a)(ha:args.toList.map (ev ρ)=vs:=by exact rfl)(hw:fP N ops ρ ⟨some d,.call {callee:= .value (.func f),args:=args,argTypes:=at_},ty,pos,af,g⟩=true:=by exact rfl)(b:Nat.blt d N=true:=by exact rfl):RL P N ops Q (⟨some d,.call {callee:= .value (.func f),args:=args,argTypes:=at_},ty,pos,af,g⟩::rest) ρ w:=xH hw b (yG he ha) hc λ_ _ ⟨e,q⟩=>⟨_,e,n _ q⟩
theorem cAa {V:A->Value}{R:A->World->Prop}(he:Go.OB.Enters P f)(hc:Calls P f vs.toArray w λe b=> ∃a,e= .returned (V a)/\R a b)(n: ∀a b,R a b->RL P N ops Q rest (upd ρ d (V a)) b)(ha:args.toList.map (ev ρ)=vs:=by exact rfl)(hw:fP N ops ρ ⟨some d,.call {callee:= .value (.func f),args:=args,argTypes:=at_},ty,pos,af,g⟩=true:=by exact rfl)(c:Nat.blt d N=true:=by exact rfl):RL P N ops Q (⟨some d,.call {callee:= .value (.func f),args:=args,argTypes:=at_},ty,pos,af,g⟩::rest) ρ w:=xH hw c (yG he ha) hc λ_ _ ⟨a,e,q⟩=>⟨_,e,n a _ q⟩
theorem cAb {V:A->B->Value}{R:A->B->World->Prop}(he:Go.OB.Enters P f)(hc:Calls P f vs.toArray w λe c=> ∃a b,e= .returned (V a b)/\R a b c)(n: ∀a b c,R a b c->RL P N ops Q rest (upd ρ d (V a b)) c)(ha:args.toList.map (ev ρ)=vs:=by exact rfl)(hw:fP N ops ρ ⟨some d,.call {callee:= .value (.func f),args:=args,argTypes:=at_},ty,pos,af,g⟩=true:=by exact rfl)(h:Nat.blt d N=true:=by exact rfl):RL P N ops Q (⟨some d,.call {callee:= .value (.func f),args:=args,argTypes:=at_},ty,pos,af,g⟩::rest) ρ w:=xH hw h (yG he ha) hc λ_ _ ⟨a,b,e,q⟩=>⟨_,e,n a b _ q⟩
theorem cAc {V:A->B->C->Value}{R:A->B->C->World->Prop}(he:Go.OB.Enters P f)(hc:Calls P f vs.toArray w λe h=> ∃a b c,e= .returned (V a b c)/\R a b c h)(n: ∀a b c h,R a b c h->RL P N ops Q rest (upd ρ d (V a b c)) h)(ha:args.toList.map (ev ρ)=vs:=by exact rfl)(hw:fP N ops ρ ⟨some d,.call {callee:= .value (.func f),args:=args,argTypes:=at_},ty,pos,af,g⟩=true:=by exact rfl)(i:Nat.blt d N=true:=by exact rfl):RL P N ops Q (⟨some d,.call {callee:= .value (.func f),args:=args,argTypes:=at_},ty,pos,af,g⟩::rest) ρ w:=xH hw i (yG he ha) hc λ_ _ ⟨a,b,c,e,q⟩=>⟨_,e,n a b c _ q⟩
theorem cAd {V:A->B->C->D->Value}{R:A->B->C->D->World->Prop}(he:Go.OB.Enters P f)(hc:Calls P f vs.toArray w λe h=> ∃a b c z,e= .returned (V a b c z)/\R a b c z h)(n: ∀a b c z h,R a b c z h->RL P N ops Q rest (upd ρ d (V a b c z)) h)(ha:args.toList.map (ev ρ)=vs:=by exact rfl)(hw:fP N ops ρ ⟨some d,.call {callee:= .value (.func f),args:=args,argTypes:=at_},ty,pos,af,g⟩=true:=by exact rfl)(i:Nat.blt d N=true:=by exact rfl):RL P N ops Q (⟨some d,.call {callee:= .value (.func f),args:=args,argTypes:=at_},ty,pos,af,g⟩::rest) ρ w:=xH hw i (yG he ha) hc λ_ _ ⟨a,b,c,z,e,q⟩=>⟨_,e,n a b c z _ q⟩
abbrev KOne (rr:Rp α)(f:α->Value):Prop:=(∀F w c x,rr.rd F w c x↔c=[f x])/\rr.sz=1/\ ∀x,(f x).cells= #[f x]
theorem aYo:KOne Rp.str (λs=> .string (bs s)):=⟨λ_ _ _ _=>Iff.rfl,rfl,λ_=>rfl⟩
theorem aOt:KOne (Rp.int .i64) (.int .i64):=⟨λ_ _ _ _=>Iff.rfl,rfl,λ_=>rfl⟩
theorem kByt:KOne (Rp.int .u8) (.int .u8):=⟨λ_ _ _ _=>Iff.rfl,rfl,λ_=>rfl⟩
theorem ll {rr:Rp α}{f:α->Value}(k:KOne rr f){len bytes:Nat}{zs:List Value}{parts:Array (Nat×Operand)}(xl:List α)(hu:P.underlying t=some (.slice e))(he:El P e rr.sz bytes zs)(H:Hd O wo w S l)(hn:xl.length=len:=by exact rfl)(hp:Nat.blt 0 len=true:=by exact rfl)(hs:Nat.ble len 16777216=true:=by exact rfl)(hi:parts.toList.map Prod.fst=List.range len:=by exact rfl)(hv:parts.toList.map (λp=>ev ρ p.2)=xl.map f:=by exact rfl): ∃v b,Do P ⟨some d,.buildSlice t len parts,ty,pos,af,g⟩ ρ w v b/\fK w b/\Hd O wo b S (l++[.own rr v e xl]):=by
 obtain⟨hl,a,hc⟩:=k;have j: ∀xl:List α,bBe 1 (xl.map f):=λxl=>by
  induction xl with
  |nil=>exact True.intro
  |cons x xl ih=>exact⟨by rw [hc];rfl,ih⟩
 have n: ∀xl:List α,rows rr (frees O l) w (xl.map f) xl:=λxl=>by
  induction xl with
  |nil=>rfl
  |cons x xl ih=>exact⟨[f x],_,rfl,(hl _ _ _ _).2 rfl,ih⟩
 have o:(xl.map f).flatMap (λv=>v.cells.toList)=xl.map f:=by
  clear hn hv
  induction xl with
  |nil=>rfl
  |cons x xl ih=>rw [List.map_cons,List.flatMap_cons,ih,hc];rfl
 have c:len*rr.sz<=16777216:=by rw [a,Nat.mul_one];exact Nat.le_of_ble_eq_true hs
 have h:0<len*rr.sz:=by rw [a,Nat.mul_one];exact Nat.le_of_ble_eq_true hp
 have i:vH rr.sz len zs (parts.toList.map λp=>(p.1,ev ρ p.2))=some (xl.map f):=xN (by rw [a];decide) hi hv (by rw [a];exact j xl) o;exact nD (Lx_bs hu he c h hn i H (n xl)) (aDl hu he c h i)
theorem snd3 {R Y Z:Value->World->Prop}(h: ∃v c,R v c/\Y v c/\Z v c): ∃v c,R v c/\Z v c:=let ⟨v,c,a,_,b⟩:=h;⟨v,c,a,b⟩
theorem kl {rr:Rp α}{f:α->Value}(k:KOne rr f){len bytes:Nat}{zs:List Value}{parts:Array (Nat×Operand)}(xl:List α)(hu:P.underlying t=some (.slice e))(he:El P e rr.sz bytes zs)(H:Hd O wo w S l)(hn:xl.length=len:=by exact rfl)(hp:Nat.blt 0 len=true:=by exact rfl)(hs:Nat.ble len 16777216=true:=by exact rfl)(hi:parts.toList.map Prod.fst=List.range len:=by exact rfl)(hv:parts.toList.map (λp=>ev ρ p.2)=xl.map f:=by exact rfl): ∃v a,Do P ⟨some d,.buildSlice t len parts,ty,pos,af,g⟩ ρ w v a/\Hd O wo a S (l++[.own rr v e xl]):=snd3 (ll k xl hu he H hn hp hs hi hv)
theorem lOne (rr:Rp α)(x:α)(cs:List Value){bytes:Nat}{zs:List Value}{q:Operand}(hu:P.underlying t=some (.slice e))(he:El P e rr.sz bytes zs)(hr:rr.rd (frees O l) w cs x)(H:Hd O wo w S l)(a:cs.length=rr.sz:=by exact rfl)(c:Nat.blt 0 cs.length=true:=by exact rfl)(j:Nat.ble cs.length 16777216=true:=by exact rfl)(hv:ev ρ q= .agg cs.toArray:=by exact rfl): ∃v b,Do P ⟨some d,.buildSlice t 1 #[(0,q)],ty,pos,af,g⟩ ρ w v b/\fK w b/\Hd O wo b S (l++[.own rr v e [x]]):=by
 have f:1*rr.sz<=16777216:=by rw [<-a,Nat.one_mul];exact Nat.le_of_ble_eq_true j
 have h:0<1*rr.sz:=by rw [<-a,Nat.one_mul];exact Nat.le_of_ble_eq_true c
 have i:vH rr.sz 1 zs ((#[(0,q)]:Array (Nat×Operand)).toList.map λp=>(p.1,ev ρ p.2))=some cs:=xN (vs:=[.agg cs.toArray]) (by rw [<-a];exact Nat.le_of_ble_eq_true c) rfl (by simp [hv]) ⟨by rw [<-a];simp [Value.cells],T1⟩ (by simp [Value.cells]);exact nD (Lx_bs hu he f h rfl i H ⟨cs,[],by simp,hr,rfl⟩) (aDl hu he f h i)
theorem aPk (rr:Rp α)(x:α)(cs:List Value){bytes:Nat}{zs:List Value}{q:Operand}(hu:P.underlying t=some (.slice e))(he:El P e rr.sz bytes zs)(hr:rr.rd (frees O l) w cs x)(H:Hd O wo w S l)(b:cs.length=rr.sz:=by exact rfl)(c:Nat.blt 0 cs.length=true:=by exact rfl)(f:Nat.ble cs.length 16777216=true:=by exact rfl)(hv:ev ρ q= .agg cs.toArray:=by exact rfl): ∃v a,Do P ⟨some d,.buildSlice t 1 #[(0,q)],ty,pos,af,g⟩ ρ w v a/\Hd O wo a S (l++[.own rr v e [x]]):=snd3 (lOne rr x cs hu he hr H b c f hv)
theorem Xu {κ:List MxM.Kd}{K:MxM.Mm->Env->World->Prop}{k:Nat}{M:MxM.Mm}{σ Si:List Nat}{vo:World}{R:World->World->Prop}(h: ∀b,fK w b-> ∃a,DoU P ⟨none,op,ty,pos,af,g⟩ ρ b a/\R b a)(n: ∀b a,fK w b->R b a->MxM.XL P (λa=>Only Si vo a) N ops κ K none σ rest ρ a)(ho: ∀b a,R b a->Only Si vo a:=by exact λ_ _ h=>h.only)(hk:MxM.kdOf κ k= .eff:=by exact rfl)(hw:fP N ops ρ ⟨none,op,ty,pos,af,g⟩=true:=by exact rfl):MxM.XL P (λa=>Only Si vo a) N ops κ K M (k::σ) (⟨none,op,ty,pos,af,g⟩::rest) ρ w:=MxM.XL_exU oS hk hw h λ_ _ s q=>⟨ho _ _ q,n _ _ s q⟩
theorem Xe {κ:List MxM.Kd}{K:MxM.Mm->Env->World->Prop}{k:Nat}{M:MxM.Mm}{σ Si:List Nat}{vo:World}{R:World->Value->World->Prop}(h: ∀b,fK w b-> ∃v a,Do P ⟨some d,op,ty,pos,af,g⟩ ρ b v a/\R b v a)(n: ∀b v a,fK w b->R b v a->MxM.XL P (λa=>Only Si vo a) N ops κ K none σ rest (upd ρ d v) a)(ho: ∀b v a,R b v a->Only Si vo a:=by exact λ_ _ _ h=>h.only)(hk:MxM.kdOf κ k= .eff:=by exact rfl)(hw:fP N ops ρ ⟨some d,op,ty,pos,af,g⟩=true:=by exact rfl)(hd:Nat.blt d N=true:=by exact rfl):MxM.XL P (λa=>Only Si vo a) N ops κ K M (k::σ) (⟨some d,op,ty,pos,af,g⟩::rest) ρ w:=MxM.XL_ex oS hk hw hd h λ_ _ _ s q=>⟨ho _ _ _ q,n _ _ _ s q⟩
theorem Xf {κ:List MxM.Kd}{K:MxM.Mm->Env->World->Prop}{k:Nat}{M:MxM.Mm}{σ Si:List Nat}{vo:World}{R:World->Value->World->α->Prop}(h: ∀c,fK w c-> ∃v b,Do P ⟨some d,op,ty,pos,af,g⟩ ρ c v b/\ ∃a,R c v b a)(n: ∀c v b,fK w c-> ∀a,R c v b a->MxM.XL P (λb=>Only Si vo b) N ops κ K none σ rest (upd ρ d v) b)(ho: ∀c v b a,R c v b a->Only Si vo b:=by exact λ_ _ _ _ h=>h.only)(hk:MxM.kdOf κ k= .eff:=by exact rfl)(hw:fP N ops ρ ⟨some d,op,ty,pos,af,g⟩=true:=by exact rfl)(hd:Nat.blt d N=true:=by exact rfl):MxM.XL P (λb=>Only Si vo b) N ops κ K M (k::σ) (⟨some d,op,ty,pos,af,g⟩::rest) ρ w:=MxM.XL_ex oS hk hw hd h λ_ _ _ s ⟨_,q⟩=>⟨ho _ _ _ _ q,n _ _ _ s _ q⟩
end
abbrev Cl (f:Nat)(a:List Value)(w:World)(R:Ending->World->Prop):Prop:=Calls Tryz.prog f a.toArray w R
abbrev Rt (f:Nat)(a:List Value)(v:Value)(w:World)(O S:List Nat)(L:List Th):Prop:=Cl f a w λe h=>e= .returned v/\Hd O w h S L
abbrev i6 (n:Int):Value:= .int .i64 n
abbrev sb (s:Str):Value:= .string (bs s)
abbrev f1 {α:Type}(r:Rp α)(v:Value)(l:List α):Th:= .fz (.sl r v l)
theorem Hbc {O S:List Nat}{a w:World}{l:List Th}{b:Nat}{T:TypeId}{cs:List Value}(H:Hd O a w S l)(i:Nat)(h:l[i]? =some (.blk b cs T)):Cells w ⟨b,0,none⟩ cs:=Blk.cells (H.V h)
theorem Hbg {O S:List Nat}{a w:World}{l:List Th}{b:Nat}{T:TypeId}{cs:List Value}{v:Value}(H:Hd O a w S l)(i j:Nat)(h:l[i]? =some (.blk b cs T))(c:cs[j]? =some v):w.cell? ⟨b,0+j,none⟩=some v:=Cells.get (Blk.cells (H.V h)) c
theorem XP {P:Program}{I:World->Prop}{N:Nat}{ops:Array Oper}{κ:List MxM.Kd}{K:MxM.Mm->Env->World->Prop}{k:Nat}{M:MxM.Mm}{σ:List Nat}{rest:List Oper}{ρ:Env}{w:World}{d:Nat}{ty:TypeId}{pos:String}{af:Array Edge}{g:Option (Nat×Bool)}{v:Value}{op:Op}(h: ∀a,I a->Do P ⟨some d,op,ty,pos,af,g⟩ ρ a v a)(n:MxM.XL P I N ops κ K M σ rest (upd ρ d v) w)(hk:MxM.kdOf κ k= .pure:=by exact rfl)(hw:fP N ops ρ ⟨some d,op,ty,pos,af,g⟩=true:=by exact rfl)(hd:Nat.blt d N=true:=by exact rfl):MxM.XL P I N ops κ K M (k::σ) (⟨some d,op,ty,pos,af,g⟩::rest) ρ w:=MxM.XL_pure hk hw hd h n
theorem XO {P:Program}{I:World->Prop}{N:Nat}{ops:Array Oper}{κ:List MxM.Kd}{K:MxM.Mm->Env->World->Prop}{k:Nat}{M:MxM.Mm}{σ:List Nat}{rest:List Oper}{ρ:Env}{w:World}{d:Nat}{ty:TypeId}{pos:String}{af:Array Edge}{g:Option (Nat×Bool)}{op:Op}(n:MxM.XL P I N ops κ K M σ rest (upd ρ d undef) w)(hk:MxM.kdOf κ k= .pure:=by exact rfl)(hw:fP N ops ρ ⟨some d,op,ty,pos,af,g⟩=false:=by exact rfl)(hd:Nat.blt d N=true:=by exact rfl):MxM.XL P I N ops κ K M (k::σ) (⟨some d,op,ty,pos,af,g⟩::rest) ρ w:=MxM.XL_offp hk hw hd n
theorem XM {P:Program}{I:World->Prop}{N:Nat}{ops:Array Oper}{κ:List MxM.Kd}{K:MxM.Mm->Env->World->Prop}{k:Nat}{M:MxM.Mm}{σ:List Nat}{rest:List Oper}{ρ:Env}{w:World}{d:Nat}{ty:TypeId}{pos:String}{af:Array Edge}{g:Option (Nat×Bool)}{x:Operand}(v:Value)(n:MxM.XL P I N ops κ K M σ rest (upd ρ d v) w)(hx:ev ρ x=v:=by exact rfl)(hk:MxM.kdOf κ k= .pure:=by exact rfl)(hw:fP N ops ρ ⟨some d,.move x,ty,pos,af,g⟩=true:=by exact rfl)(hd:Nat.blt d N=true:=by exact rfl):MxM.XL P I N ops κ K M (k::σ) (⟨some d,.move x,ty,pos,af,g⟩::rest) ρ w:=MxM.XL_pure hk hw hd (λ_ _=>bF hx) n
theorem XR {P:Program}{c:World}{e:List Nat}{N:Nat}{ops:Array Oper}{κ:List MxM.Kd}{K:MxM.Mm->Env->World->Prop}{k:Nat}{M:MxM.Mm}{σ:List Nat}{rest:List Oper}{ρ:Env}{w:World}{d:Nat}{ty:TypeId}{pos:String}{af:Array Edge}{g:Option (Nat×Bool)}{t:TypeId}{x:Operand}{O S:List Nat}{f:World}{l:List Th}{b:Nat}{T:TypeId}{cs:List Value}{v:Value}(o:aAo P t)(H:Hd O f w S l)(i j:Nat)(h:l[i]? =some (.blk b cs T))(p:cs[j]? =some v)(n:MxM.XL P (λa=>Only e c a) N ops κ K M σ rest (upd ρ d v) w)(hx:ev ρ x= .pointer (some ⟨b,0+j,none⟩):=by exact rfl)(hk:MxM.kdOf κ k= .read:=by exact rfl)(hw:fP N ops ρ ⟨some d,.load t x,ty,pos,af,g⟩=true:=by exact rfl)(hd:Nat.blt d N=true:=by exact rfl):MxM.XL P (λa=>Only e c a) N ops κ K M (k::σ) (⟨some d,.load t x,ty,pos,af,g⟩::rest) ρ w:=MxM.yX oS hk hw hd (λ_ q=>yF o hx (Hbg (H.Z q) i j h p)) n
theorem Ld {P:Program}{N:Nat}{ops:Array Oper}{Q:Exit->Env->World->Prop}{rest:List Oper}{ρ:Env}{w:World}{d:Nat}{t ty:TypeId}{x:Operand}{pos:String}{af:Array Edge}{g:Option (Nat×Bool)}{O S:List Nat}{a:World}{l:List Th}{b:Nat}{T:TypeId}{cs:List Value}{v:Value}(o:aAo P t)(H:Hd O a w S l)(i j:Nat)(h:l[i]? =some (.blk b cs T))(c:cs[j]? =some v)(k:RL P N ops Q rest (upd ρ d v) w)(hx:ev ρ x= .pointer (some ⟨b,0+j,none⟩):=by exact rfl)(hw:fP N ops ρ ⟨some d,.load t x,ty,pos,af,g⟩=true:=by exact rfl)(hd:Nat.blt d N=true:=by exact rfl):RL P N ops Q (⟨some d,.load t x,ty,pos,af,g⟩::rest) ρ w:=zN (yF o hx (Hbg H i j h c)) k hw hd
theorem fH {f:FuncId}{fn:Func}(h:Tryz.prog.funcs[f]? =some fn)(a:fn.body.isSome=true:=by exact rfl)(b:(fn.name== "runtime.NumGoroutine")=false:=by kernel_rfl):Go.OB.Enters Tryz.prog f:=⟨_,h,a,b⟩
theorem u2:Tryz.prog.underlying 2=some (.int .i64):=Tryz.underlying2
theorem u3:Tryz.prog.underlying 3=some (.int .i64):=Tryz.underlying3
theorem u5:Tryz.prog.underlying 5=some (.int .u8):=Tryz.underlying5
theorem u9:Tryz.prog.underlying 9=some .string:=Tryz.underlying9
theorem u22:Tryz.prog.underlying 22=some (.slice 52):=Tryz.underlying22
theorem u23:Tryz.prog.underlying 23=some (.slice 9):=Tryz.underlying23
theorem u24:Tryz.prog.underlying 24=some (.slice 73):=Tryz.underlying24
theorem u25:Tryz.prog.underlying 25=some (.slice 112):=Tryz.underlying25
theorem u28:Tryz.prog.underlying 28=some (.slice 78):=Tryz.underlying28
theorem u32:Tryz.prog.underlying 32=some (.slice 58):=Tryz.underlying32
theorem u39:Tryz.prog.underlying 39=some (.slice 5):=Tryz.underlying39
theorem u49:Tryz.prog.underlying 49=some (.map 9 3):=Tryz.underlying49
theorem u50:Tryz.prog.underlying 50=some (.slice 85):=Tryz.underlying50
theorem u56:Tryz.prog.underlying 56=some (.slice 3):=Tryz.underlying56
theorem u69:Tryz.prog.underlying 69=some (.slice 71):=Tryz.underlying69
theorem u81:Tryz.prog.underlying 81=some (.slice 88):=Tryz.underlying81
theorem u91:Tryz.prog.underlying 91=some (.slice 4):=Tryz.underlying91
theorem u94:Tryz.prog.underlying 94=some (.slice 100):=Tryz.underlying94
theorem u96:Tryz.prog.underlying 96=some (.slice 56):=Tryz.underlying96
theorem u119:Tryz.prog.underlying 119=some (.slice 166):=Tryz.underlying119
theorem aYd:Tryz.prog.underlying 129=some (.slice 248):=Tryz.underlying129
theorem aAm:Tryz.prog.underlying 130=some (.slice 257):=Tryz.underlying130
theorem aLd:Tryz.prog.underlying 133=some (.slice 132):=Tryz.underlying133
theorem u152:Tryz.prog.underlying 152=some (.pointer 85):=Tryz.underlying152
theorem u154:Tryz.prog.underlying 154=some (.slice 191):=Tryz.underlying154
theorem aGh:Tryz.prog.underlying 155=some (.slice 188):=Tryz.underlying155
theorem aXl:Tryz.prog.underlying 169=some (.int .u64):=Tryz.underlying169
theorem u206:Tryz.prog.underlying 206=some (.int .u64):=Tryz.underlying206
theorem aYj:Tryz.prog.underlying 232=some (.array 3 3):=Tryz.underlying232
theorem u248:Tryz.prog.underlying 248=some (.int .i8):=Tryz.underlying248
abbrev szZ (a b:Nat):Prop:=Sz Tryz.prog a b
theorem szO {a b:Nat}(h:Sz Tryz.prog a b:=by unfold Sz;kernel_rfl):szZ a b:=h
theorem sz3:szZ 3 1:=szO
theorem sz4:szZ 4 1:=szO
theorem sz9:szZ 9 1:=szO
theorem sz23:szZ 23 1:=szO
theorem sW:szZ 27 3:=szO
theorem bEi:szZ 30 5:=szO
theorem sz39:szZ 39 1:=szO
theorem sz50:szZ 50 1:=szO
theorem qN:szZ 52 6:=szO
theorem aDb:szZ 56 1:=szO
theorem kY:szZ 58 4:=szO
theorem sz67:szZ 67 1:=szO
theorem dO:szZ 71 7:=szO
theorem aDp:szZ 73 9:=szO
theorem aLk:szZ 78 2:=szO
theorem sz81:szZ 81 1:=szO
theorem aQh:szZ 83 2:=szO
theorem pY:szZ 85 4:=szO
theorem kX:szZ 88 3:=szO
theorem sz91:szZ 91 1:=szO
theorem bHn:szZ 100 5:=szO
theorem sO:szZ 112 8:=szO
theorem sz119:szZ 119 1:=szO
theorem sz129:szZ 129 1:=szO
theorem aTp:szZ 130 1:=szO
theorem aIh:szZ 132 18:=szO
theorem sz133:szZ 133 1:=szO
theorem sz154:szZ 154 1:=szO
theorem sz155:szZ 155 1:=szO
theorem nI:szZ 166 2:=szO
theorem nS:szZ 175 7:=szO
theorem aIi:szZ 188 1:=szO
theorem aSt:szZ 191 3:=szO
theorem sz232:szZ 232 3:=szO
theorem aLy:szZ 248 1:=szO
theorem aLu:szZ 257 2:=szO
abbrev vJ (a:Nat):Prop:=aAo Tryz.prog a
theorem wV {a:Nat}(h:aAo Tryz.prog a:=by unfold aAo;kernel_rfl):vJ a:=h
theorem gY:vJ 3:=wV
theorem nH:vJ 4:=wV
theorem eQ:vJ 9:=wV
theorem bJ:vJ 23:=wV
theorem aBz:vJ 24:=wV
theorem jZ:vJ 25:=wV
theorem aEt:vJ 28:=wV
theorem aYb:vJ 39:=wV
theorem aRg:vJ 49:=wV
theorem aBc:vJ 50:=wV
theorem dC:vJ 56:=wV
theorem one67:vJ 67:=wV
theorem pF:vJ 69:=wV
theorem qB:vJ 81:=wV
theorem aDm:vJ 91:=wV
theorem aLb:vJ 119:=wV
theorem aGt:vJ 129:=wV
theorem nR:vJ 130:=wV
theorem wX:vJ 133:=wV
theorem bDn:vJ 154:=wV
theorem bDj:vJ 155:=wV
theorem qP:vJ 188:=wV
theorem one248:vJ 248:=wV
abbrev aEu (a:Nat):Prop:=Agg Tryz.prog a
theorem aGi {a:Nat}(h:Agg Tryz.prog a:=by unfold Agg;kernel_rfl):aEu a:=h
theorem jK:aEu 27:=aGi
theorem aRq:aEu 30:=aGi
theorem qY:aEu 52:=aGi
theorem aMg:aEu 58:=aGi
theorem dF:aEu 71:=aGi
theorem aSo:aEu 73:=aGi
theorem agg78:aEu 78:=aGi
theorem aJq:aEu 83:=aGi
theorem aIs:aEu 85:=aGi
theorem uS:aEu 88:=aGi
theorem aVp:aEu 112:=aGi
theorem agg132:aEu 132:=aGi
theorem aGy:aEu 166:=aGi
theorem wP:aEu 175:=aGi
theorem agg191:aEu 191:=aGi
theorem agg232:aEu 232:=aGi
theorem zero3:Go.OB.Zero Tryz.prog 3 ([i6 0]):=by unfold Go.OB.Zero;kernel_rfl
theorem zero23:Go.OB.Zero Tryz.prog 23 ([.slice none 0 0]):=by unfold Go.OB.Zero;kernel_rfl
theorem aGs:Go.OB.Zero Tryz.prog 52 ([.string (bs []),.string (bs []),i6 0,i6 0,i6 0,.slice none 0 0]):=by unfold Go.OB.Zero;kernel_rfl
theorem zero56:Go.OB.Zero Tryz.prog 56 ([.slice none 0 0]):=by unfold Go.OB.Zero;kernel_rfl
theorem aKz:Go.OB.Zero Tryz.prog 58 ([.string (bs []),vb false,i6 0,.slice none 0 0]):=by unfold Go.OB.Zero;kernel_rfl
theorem zero67:Go.OB.Zero Tryz.prog 67 ([.nilFunc]):=by unfold Go.OB.Zero;kernel_rfl
theorem aHb:Go.OB.Zero Tryz.prog 71 ([i6 0,.string (bs []),.string (bs []),i6 0,i6 0,i6 0,.slice none 0 0]):=by unfold Go.OB.Zero;kernel_rfl
theorem aOz:Go.OB.Zero Tryz.prog 73 ([.string (bs []),.string (bs []),i6 0,.string (bs []),.string (bs []),i6 0,i6 0,i6 0,.slice none 0 0]):=by unfold Go.OB.Zero;kernel_rfl
theorem zero78:Go.OB.Zero Tryz.prog 78 ([.string (bs []),i6 0]):=by unfold Go.OB.Zero;kernel_rfl
theorem zero83:Go.OB.Zero Tryz.prog 83 ([i6 0,.slice none 0 0]):=by unfold Go.OB.Zero;kernel_rfl
theorem aRi:Go.OB.Zero Tryz.prog 85 ([.string (bs []),i6 0,.slice none 0 0,i6 0]):=by unfold Go.OB.Zero;kernel_rfl
theorem aBh:Go.OB.Zero Tryz.prog 88 ([i6 0,i6 0,i6 0]):=by unfold Go.OB.Zero;kernel_rfl
theorem zero91:Go.OB.Zero Tryz.prog 91 ([.slice none 0 0]):=by unfold Go.OB.Zero;kernel_rfl
theorem aWa:Go.OB.Zero Tryz.prog 112 ([.string (bs []),i6 0,.string (bs []),.string (bs []),i6 0,i6 0,i6 0,.slice none 0 0]):=by unfold Go.OB.Zero;kernel_rfl
theorem zero132:Go.OB.Zero Tryz.prog 132 ([i6 0,.string (bs []),.string (bs []),i6 0,i6 0,i6 0,.slice none 0 0,.slice none 0 0,i6 0,i6 0,i6 0,.slice none 0 0,i6 0,i6 0,i6 0,i6 0,.slice none 0 0,.slice none 0 0]):=by unfold Go.OB.Zero;kernel_rfl
theorem uJ:Go.OB.Zero Tryz.prog 166 ([i6 0,vb false]):=by unfold Go.OB.Zero;kernel_rfl
theorem bEz:Go.OB.Zero Tryz.prog 175 ([vb false,vb false,vb false,vb false,vb false,i6 0,i6 0]):=by unfold Go.OB.Zero;kernel_rfl
theorem bEs:Go.OB.Zero Tryz.prog 191 ([i6 0,i6 0,.nilIface]):=by unfold Go.OB.Zero;kernel_rfl
theorem zero232:Go.OB.Zero Tryz.prog 232 ((Fl.arr 3 (Fl.int .i64)).f (Arr.rep 3 0:Arr 3 Int)):=by unfold Go.OB.Zero;kernel_rfl
theorem el3:El Tryz.prog 3 1 8 ([i6 0]):=⟨by kernel_rfl,by kernel_rfl,by kernel_rfl,by decide,by decide⟩
theorem el4:El Tryz.prog 4 1 1 ([vb false]):=⟨by kernel_rfl,by kernel_rfl,by kernel_rfl,by decide,by decide⟩
theorem el5:El Tryz.prog 5 1 1 ([.int .u8 0]):=⟨by kernel_rfl,by kernel_rfl,by kernel_rfl,by decide,by decide⟩
theorem el9:El Tryz.prog 9 1 16 ([.string (bs [])]):=⟨by kernel_rfl,by kernel_rfl,by kernel_rfl,by decide,by decide⟩
theorem el56:El Tryz.prog 56 1 24 ([.slice none 0 0]):=⟨by kernel_rfl,by kernel_rfl,by kernel_rfl,by decide,by decide⟩
theorem el58:El Tryz.prog 58 4 56 ([.string (bs []),vb false,i6 0,.slice none 0 0]):=⟨by kernel_rfl,by kernel_rfl,by kernel_rfl,by decide,by decide⟩
theorem aOu:El Tryz.prog 85 4 56 ([.string (bs []),i6 0,.slice none 0 0,i6 0]):=⟨by kernel_rfl,by kernel_rfl,by kernel_rfl,by decide,by decide⟩
theorem el88:El Tryz.prog 88 3 24 ([i6 0,i6 0,i6 0]):=⟨by kernel_rfl,by kernel_rfl,by kernel_rfl,by decide,by decide⟩
theorem bHv:El Tryz.prog 100 5 32 ([i6 0,i6 0,i6 0,vb false,vb false]):=⟨by kernel_rfl,by kernel_rfl,by kernel_rfl,by decide,by decide⟩
theorem el132:El Tryz.prog 132 18 240 ([i6 0,.string (bs []),.string (bs []),i6 0,i6 0,i6 0,.slice none 0 0,.slice none 0 0,i6 0,i6 0,i6 0,.slice none 0 0,i6 0,i6 0,i6 0,i6 0,.slice none 0 0,.slice none 0 0]):=⟨by kernel_rfl,by kernel_rfl,by kernel_rfl,by decide,by decide⟩
theorem aQa:El Tryz.prog 166 2 16 ([i6 0,vb false]):=⟨by kernel_rfl,by kernel_rfl,by kernel_rfl,by decide,by decide⟩
theorem aZu:El Tryz.prog 188 1 16 ([.nilIface]):=⟨by kernel_rfl,by kernel_rfl,by kernel_rfl,by decide,by decide⟩
theorem el191:El Tryz.prog 191 3 32 ([i6 0,i6 0,.nilIface]):=⟨by kernel_rfl,by kernel_rfl,by kernel_rfl,by decide,by decide⟩
theorem el248:El Tryz.prog 248 1 1 ([.int .i8 0]):=⟨by kernel_rfl,by kernel_rfl,by kernel_rfl,by decide,by decide⟩
theorem aSs:El Tryz.prog 257 2 16 ([i6 0,i6 0]):=⟨by kernel_rfl,by kernel_rfl,by kernel_rfl,by decide,by decide⟩
theorem z8_5:Z8 Tryz.prog 5:=by unfold Z8;kernel_rfl
theorem bz41:Tryz.prog.built 41 []=some ([.slice none 0 0]).toArray:=by kernel_rfl
theorem bz88:Tryz.prog.built 88 []=some ([i6 0,i6 0,i6 0]).toArray:=by kernel_rfl
theorem bz175:Tryz.prog.built 175 []=some ([vb false,vb false,vb false,vb false,vb false,i6 0,i6 0]).toArray:=by kernel_rfl
theorem aJx (a:Str)(b:Bool):Tryz.prog.built 58 [(0,sb a),(1,vb b)]=some [sb a,vb b,i6 0,.slice none 0 0].toArray:=by kernel_rfl
theorem aPy (a:Str)(b:Int)(c:Option Addr)(d e:Nat):Tryz.prog.built 58 [(0,sb a),(2,i6 b),(3,.slice c d e)]=some [sb a,vb false,i6 b,.slice c d e].toArray:=by kernel_rfl
theorem bAo (a:Str)(b:Option Addr)(c d:Nat):Tryz.prog.built 58 [(0,sb a),(3,.slice b c d)]=some [sb a,vb false,i6 0,.slice b c d].toArray:=by kernel_rfl
theorem bDq (a:Int):Tryz.prog.built 83 [(0,i6 a)]=some [i6 a,.slice none 0 0].toArray:=by kernel_rfl
theorem bAk (a:Str)(b:Int)(c:Option Addr)(d e:Nat):Tryz.prog.built 85 [(0,sb a),(1,.agg [i6 b,.slice c d e].toArray)]=some [sb a,i6 b,.slice c d e,i6 0].toArray:=by kernel_rfl
theorem aLs (a b:Int)(c:Bool):Tryz.prog.built 100 [(0,i6 a),(1,i6 b),(3,vb c)]=some [i6 a,i6 b,i6 0,vb c,vb false].toArray:=by kernel_rfl
theorem bt132_0 (a:Int)(b c:Str)(d e f:Int)(h:Option Addr)(i j:Nat):Tryz.prog.built 132 [(0,.agg [i6 a,sb b,sb c,i6 d,i6 e,i6 f,.slice h i j].toArray)]=some [i6 a,sb b,sb c,i6 d,i6 e,i6 f,.slice h i j,.slice none 0 0,i6 0,i6 0,i6 0,.slice none 0 0,i6 0,i6 0,i6 0,i6 0,.slice none 0 0,.slice none 0 0].toArray:=by kernel_rfl
theorem bt135_0_5 (a:Option Addr)(b c:Nat)(d:Option Addr)(e f:Nat)(h:Option Addr)(i j:Nat)(k:Option Addr)(l n:Nat):Tryz.prog.built 135 [(0,.agg [.slice a b c,.slice d e f,.slice h i j].toArray),(5,.slice k l n)]=some [.slice a b c,.slice d e f,.slice h i j,.slice none 0 0,.slice none 0 0,.slice none 0 0,i6 0,.slice k l n,.slice none 0 0,i6 0,.slice none 0 0,.slice none 0 0].toArray:=by kernel_rfl
theorem aYp (a:Option Addr)(b c:Nat)(d:Int)(e:Option Addr)(f h:Nat):Tryz.prog.built 157 [(0,.slice a b c),(1,i6 d),(4,.slice e f h)]=some [.slice a b c,i6 d,.slice none 0 0,.slice none 0 0,.slice e f h].toArray:=by kernel_rfl
theorem aTv (a:Int)(b:Bool):Tryz.prog.built 166 [(0,i6 a),(1,vb b)]=some [i6 a,vb b].toArray:=by kernel_rfl
theorem bt175_0 (a:Bool):Tryz.prog.built 175 [(0,vb a)]=some [vb a,vb false,vb false,vb false,vb false,i6 0,i6 0].toArray:=by kernel_rfl
theorem aYa (a b c:Bool):Tryz.prog.built 175 [(0,vb a),(1,vb b),(2,vb c)]=some [vb a,vb b,vb c,vb false,vb false,i6 0,i6 0].toArray:=by kernel_rfl
theorem aZb (a b c:Bool):Tryz.prog.built 175 [(0,vb a),(2,vb b),(3,vb c)]=some [vb a,vb false,vb b,vb c,vb false,i6 0,i6 0].toArray:=by kernel_rfl
theorem aZj (a b c:Bool):Tryz.prog.built 175 [(0,vb a),(3,vb b),(4,vb c)]=some [vb a,vb false,vb false,vb b,vb c,i6 0,i6 0].toArray:=by kernel_rfl
theorem aSa (a b:Bool)(c d:Int):Tryz.prog.built 175 [(3,vb a),(4,vb b),(5,i6 c),(6,i6 d)]=some [vb false,vb false,vb false,vb a,vb b,i6 c,i6 d].toArray:=by kernel_rfl
theorem bBj (a:Bool)(b c:Int):Tryz.prog.built 175 [(4,vb a),(5,i6 b),(6,i6 c)]=some [vb false,vb false,vb false,vb false,vb a,i6 b,i6 c].toArray:=by kernel_rfl
theorem aLa (a b:Int):Tryz.prog.built 175 [(5,i6 a),(6,i6 b)]=some [vb false,vb false,vb false,vb false,vb false,i6 a,i6 b].toArray:=by kernel_rfl
theorem aZr (a:Option Nat)(b:Option Addr)(c d:Nat)(e:Option Nat):Tryz.prog.built 185 [(0,.map a),(2,.slice b c d),(3,.map e)]=some [.map a,.slice none 0 0,.slice b c d,.map e].toArray:=by kernel_rfl
theorem aZn (a b:Int)(a2T:TypeId)(c:Value):Tryz.prog.built 191 [(0,i6 a),(1,i6 b),(2,.iface a2T c)]=some [i6 a,i6 b,.iface a2T c].toArray:=by kernel_rfl
theorem bt194_0 (a:Option Addr)(b c:Nat):Tryz.prog.built 194 [(0,.slice a b c)]=some [.slice a b c,.slice none 0 0,.slice none 0 0].toArray:=by kernel_rfl
theorem bGd (a:Int):Tryz.prog.built 213 [(0,i6 a)]=some [i6 a].toArray:=by kernel_rfl
theorem aXx (a b c:Int):Tryz.prog.built 215 [(0,i6 a),(1,i6 b),(2,i6 c)]=some [i6 a,i6 b,i6 c].toArray:=by kernel_rfl
theorem aMs (a b c d e:Int):Tryz.prog.built 217 [(0,i6 a),(1,i6 b),(2,i6 c),(3,i6 d),(4,i6 e)]=some [i6 a,i6 b,i6 c,i6 d,i6 e].toArray:=by kernel_rfl
theorem aZi (a b c:Int):Tryz.prog.built 220 [(0,i6 a),(1,i6 b),(2,i6 c)]=some [i6 a,i6 b,i6 c,.slice none 0 0].toArray:=by kernel_rfl
theorem bt222_0 (a:Int):Tryz.prog.built 222 [(0,i6 a)]=some [i6 a].toArray:=by kernel_rfl
theorem bt224_0 (a:Int):Tryz.prog.built 224 [(0,i6 a)]=some [i6 a].toArray:=by kernel_rfl
theorem bt227_0 (a0T:TypeId)(a:Value):Tryz.prog.built 227 [(0,.iface a0T a)]=some [.iface a0T a].toArray:=by kernel_rfl
theorem bt230_0_1 (a:Option Addr)(b c:Nat)(d:Bool):Tryz.prog.built 230 [(0,.slice a b c),(1,vb d)]=some [.slice a b c,vb d].toArray:=by kernel_rfl
theorem aEc (a0T:TypeId)(a:Value)(b c:Int):Tryz.prog.built 234 [(0,.iface a0T a),(1,i6 b),(2,i6 c)]=some [.iface a0T a,i6 b,i6 c,.slice none 0 0,i6 0,i6 0,i6 0].toArray:=by kernel_rfl
theorem bt237_0_1 (a0T:TypeId)(a:Value)(a1T:TypeId)(b:Value):Tryz.prog.built 237 [(0,.iface a0T a),(1,.iface a1T b)]=some [.iface a0T a,.iface a1T b,i6 0,vb false].toArray:=by kernel_rfl
theorem bt240_0 (a0T:TypeId)(a:Value):Tryz.prog.built 240 [(0,.iface a0T a)]=some [.iface a0T a,i6 0,vb false].toArray:=by kernel_rfl
theorem aTf (a b:Int):Tryz.prog.built 257 [(0,i6 a),(1,i6 b)]=some [i6 a,i6 b].toArray:=by kernel_rfl
abbrev gX (b:Nat):Value:= .pointer (some ⟨b,0,none⟩)
def FAt (t i m:Nat):Prop:= ∀{ρ:Env}{w:World}{d:Option Tmp}{x:Operand}{ty:TypeId}{pos:String}{af:Array Edge}{g:Option (Nat×Bool)}{b o:Nat} (_:ev ρ x= .pointer (some ⟨b,o,none⟩)),Do Tryz.prog ⟨d,.fieldAddr t x i,ty,pos,af,g⟩ ρ w (.pointer (some ⟨b,o+m,none⟩)) w
theorem faO {t i m:Nat}(n:Nat)(h:aQl Tryz.prog t i=some (m,some n):=by kernel_rfl)(hn:n≠0:=by decide):FAt t i m:=λhx=>aRw h hn hx
theorem kQ:FAt 27 0 0:=faO 1
theorem sV:FAt 27 1 1:=faO 1
theorem aW:FAt 27 2 2:=faO 1
theorem fa30_0:FAt 30 0 0:=faO 1
theorem aQb:FAt 30 1 1:=faO 1
theorem aEb:FAt 30 2 2:=faO 1
theorem aAa:FAt 30 3 3:=faO 1
theorem aWd:FAt 30 4 4:=faO 1
theorem aCi:FAt 41 0 0:=faO 1
theorem aEh:FAt 52 0 0:=faO 1
theorem aUq:FAt 52 1 1:=faO 1
theorem aCl:FAt 52 2 2:=faO 1
theorem aCo:FAt 52 3 3:=faO 1
theorem aFd:FAt 52 4 4:=faO 1
theorem nP:FAt 52 5 5:=faO 1
theorem aDz:FAt 58 0 0:=faO 1
theorem aPd:FAt 58 1 1:=faO 1
theorem pX:FAt 58 2 2:=faO 1
theorem rW:FAt 58 3 3:=faO 1
theorem aO:FAt 71 0 0:=faO 1
theorem jD:FAt 71 1 1:=faO 1
theorem aEo:FAt 71 2 2:=faO 1
theorem aDy:FAt 71 3 3:=faO 1
theorem qQ:FAt 71 4 4:=faO 1
theorem mP:FAt 71 5 5:=faO 1
theorem kP:FAt 71 6 6:=faO 1
theorem aXi:FAt 73 0 0:=faO 1
theorem aWt:FAt 73 1 1:=faO 1
theorem aEn:FAt 73 2 2:=faO 7
theorem aLj:FAt 78 0 0:=faO 1
theorem aVq:FAt 78 1 1:=faO 1
theorem aOe:FAt 83 0 0:=faO 1
theorem kL:FAt 83 1 1:=faO 1
theorem rG:FAt 85 0 0:=faO 1
theorem rX:FAt 85 1 1:=faO 2
theorem aUw:FAt 85 2 3:=faO 1
theorem aBk:FAt 88 0 0:=faO 1
theorem aBj:FAt 88 1 1:=faO 1
theorem aFk:FAt 88 2 2:=faO 1
theorem fa100_0:FAt 100 0 0:=faO 1
theorem fa100_2:FAt 100 2 2:=faO 1
theorem bEx:FAt 100 4 4:=faO 1
theorem aDf:FAt 112 0 0:=faO 1
theorem aAv:FAt 112 1 1:=faO 7
theorem pO:FAt 132 0 0:=faO 7
theorem vM:FAt 132 1 7:=faO 1
theorem bFd:FAt 132 2 8:=faO 1
theorem kR:FAt 132 3 9:=faO 1
theorem bHp:FAt 132 4 10:=faO 1
theorem aAz:FAt 132 5 11:=faO 1
theorem vO:FAt 132 6 12:=faO 1
theorem aCr:FAt 132 7 13:=faO 1
theorem aCu:FAt 132 8 14:=faO 1
theorem aIl:FAt 132 9 15:=faO 1
theorem mJ:FAt 132 10 16:=faO 1
theorem nT:FAt 132 11 17:=faO 1
theorem aFu:FAt 135 0 0:=faO 3
theorem aWi:FAt 135 1 3:=faO 1
theorem aXa:FAt 135 2 4:=faO 1
theorem bHq:FAt 135 3 5:=faO 1
theorem aFp:FAt 135 4 6:=faO 1
theorem aId:FAt 135 5 7:=faO 1
theorem qH:FAt 135 6 8:=faO 1
theorem aUp:FAt 135 7 9:=faO 1
theorem aXj:FAt 135 8 10:=faO 1
theorem aNf:FAt 135 9 11:=faO 1
theorem bFo:FAt 157 0 0:=faO 1
theorem aNr:FAt 157 2 2:=faO 1
theorem aWo:FAt 157 3 3:=faO 1
theorem aIf:FAt 157 4 4:=faO 1
theorem mZ:FAt 166 0 0:=faO 1
theorem aBb:FAt 166 1 1:=faO 1
theorem bHt:FAt 175 0 0:=faO 1
theorem bGv:FAt 175 1 1:=faO 1
theorem bFc:FAt 175 2 2:=faO 1
theorem bHs:FAt 175 3 3:=faO 1
theorem bGn:FAt 175 4 4:=faO 1
theorem fa175_5:FAt 175 5 5:=faO 1
theorem fa175_6:FAt 175 6 6:=faO 1
theorem aJp:FAt 185 0 0:=faO 1
theorem aNs:FAt 185 1 1:=faO 1
theorem fa185_2:FAt 185 2 2:=faO 1
theorem bHm:FAt 185 3 3:=faO 1
theorem fa191_0:FAt 191 0 0:=faO 1
theorem fa191_1:FAt 191 1 1:=faO 1
theorem fa191_2:FAt 191 2 2:=faO 1
theorem aNq:FAt 194 0 0:=faO 1
theorem aWg:FAt 194 1 1:=faO 1
theorem aNp:FAt 194 2 2:=faO 1
theorem fa213_0:FAt 213 0 0:=faO 1
theorem fa215_0:FAt 215 0 0:=faO 1
theorem fa215_1:FAt 215 1 1:=faO 1
theorem fa215_2:FAt 215 2 2:=faO 1
theorem fa217_0:FAt 217 0 0:=faO 1
theorem fa217_1:FAt 217 1 1:=faO 1
theorem fa217_2:FAt 217 2 2:=faO 1
theorem fa217_3:FAt 217 3 3:=faO 1
theorem fa217_4:FAt 217 4 4:=faO 1
theorem fa220_0:FAt 220 0 0:=faO 1
theorem fa220_1:FAt 220 1 1:=faO 1
theorem bFx:FAt 220 2 2:=faO 1
theorem bFh:FAt 220 3 3:=faO 1
theorem fa222_0:FAt 222 0 0:=faO 1
theorem fa224_0:FAt 224 0 0:=faO 1
theorem fa227_0:FAt 227 0 0:=faO 1
theorem fa230_0:FAt 230 0 0:=faO 1
theorem fa230_1:FAt 230 1 1:=faO 1
theorem fa234_0:FAt 234 0 0:=faO 1
theorem bFy:FAt 234 1 1:=faO 1
theorem bFu:FAt 234 2 2:=faO 1
theorem aFr:FAt 234 3 3:=faO 1
theorem aIj:FAt 234 4 4:=faO 3
theorem fa237_0:FAt 237 0 0:=faO 1
theorem fa237_1:FAt 237 1 1:=faO 1
theorem aXo:FAt 237 2 2:=faO 1
theorem fa237_3:FAt 237 3 3:=faO 1
theorem fa240_0:FAt 240 0 0:=faO 1
theorem aVy:FAt 240 1 1:=faO 1
theorem fa240_2:FAt 240 2 2:=faO 1
theorem fa257_0:FAt 257 0 0:=faO 1
theorem aNj:FAt 257 1 1:=faO 1
abbrev fZ:=f1 Rp.str
abbrev dL:=f1 dU
abbrev bG:=f1 aMk
abbrev bQ:=f1 aGz
abbrev aX:=f1 Rp.bool
abbrev jL:=f1 (Rp.int .i64)
abbrev jU:=f1 aU
abbrev nV:=f1 dE
abbrev aDh:=f1 eH
abbrev aIb:=f1 bP
abbrev eG:=Rt.row (Rt.of (Rp.int .i64)) 3 []
abbrev bH:=Rt.row dP 132 []
abbrev uV:=Rt.row aAr 191 []
abbrev aHd:=Rt.row (Rt.of fQ) 257 []
abbrev vC:=Rt.row tY 58 []
abbrev vK:=Rt.row bI 188 []
abbrev rw_7:=Rt.row (Rt.of aU) 166 []
abbrev rw_8:=Rt.row (Rt.of (Rp.int .i8)) 248 []
section
variable {O S:List Nat}{v w:World}{a b c d e f g i j k l m n o p q r s t u x y z A B C D E F G H I J K L M:Th}
abbrev hh (p:Prop):Prop:=p->p
theorem un1:hh (Hd O v w S [a]):=id
theorem un2:hh (Hd O v w S [a,b]):=id
theorem un3:hh (Hd O v w S [a,b,c]):=id
theorem un4:hh (Hd O v w S [a,b,c,d]):=id
theorem un5:hh (Hd O v w S [a,b,c,d,e]):=id
theorem un6:hh (Hd O v w S [a,b,c,d,e,f]):=id
theorem un7:hh (Hd O v w S [a,b,c,d,e,f,g]):=id
theorem un8:hh (Hd O v w S [a,b,c,d,e,f,g,i]):=id
theorem un9:hh (Hd O v w S [a,b,c,d,e,f,g,i,j]):=id
theorem aBv:hh (Hd O v w S [a,b,c,d,e,f,g,i,j,k]):=id
theorem mX:hh (Hd O v w S [a,b,c,d,e,f,g,i,j,k,l]):=id
theorem dY:hh (Hd O v w S [a,b,c,d,e,f,g,i,j,k,l,m]):=id
theorem dD:hh (Hd O v w S [a,b,c,d,e,f,g,i,j,k,l,m,n]):=id
theorem aB:hh (Hd O v w S [a,b,c,d,e,f,g,i,j,k,l,m,n,o]):=id
theorem tZ:hh (Hd O v w S [a,b,c,d,e,f,g,i,j,k,l,m,n,o,p]):=id
theorem rD:hh (Hd O v w S [a,b,c,d,e,f,g,i,j,k,l,m,n,o,p,q]):=id
theorem bU:hh (Hd O v w S [a,b,c,d,e,f,g,i,j,k,l,m,n,o,p,q,r]):=id
theorem sU:hh (Hd O v w S [a,b,c,d,e,f,g,i,j,k,l,m,n,o,p,q,r,s]):=id
theorem aYh:hh (Hd O v w S [a,b,c,d,e,f,g,i,j,k,l,m,n,o,p,q,r,s,t]):=id
theorem un20:hh (Hd O v w S [a,b,c,d,e,f,g,i,j,k,l,m,n,o,p,q,r,s,t,u]):=id
theorem un21:hh (Hd O v w S [a,b,c,d,e,f,g,i,j,k,l,m,n,o,p,q,r,s,t,u,x]):=id
theorem un22:hh (Hd O v w S [a,b,c,d,e,f,g,i,j,k,l,m,n,o,p,q,r,s,t,u,x,y]):=id
theorem un23:hh (Hd O v w S [a,b,c,d,e,f,g,i,j,k,l,m,n,o,p,q,r,s,t,u,x,y,z]):=id
theorem un24:hh (Hd O v w S [a,b,c,d,e,f,g,i,j,k,l,m,n,o,p,q,r,s,t,u,x,y,z,A]):=id
theorem un25:hh (Hd O v w S [a,b,c,d,e,f,g,i,j,k,l,m,n,o,p,q,r,s,t,u,x,y,z,A,B]):=id
theorem un26:hh (Hd O v w S [a,b,c,d,e,f,g,i,j,k,l,m,n,o,p,q,r,s,t,u,x,y,z,A,B,C]):=id
theorem un27:hh (Hd O v w S [a,b,c,d,e,f,g,i,j,k,l,m,n,o,p,q,r,s,t,u,x,y,z,A,B,C,D]):=id
theorem un36:hh (Hd O v w S [a,b,c,d,e,f,g,i,j,k,l,m,n,o,p,q,r,s,t,u,x,y,z,A,B,C,D,E,F,G,H,I,J,K,L,M]):=id
end
section
variable {P:Program}{N:Nat}{ops:Array Oper}{Q:Exit->Env->World->Prop}{rest:List Oper}{ρ:Env}{w:World}{d f:Nat}{t u ty tz:TypeId}{x y:Operand}{pos qos:String}{af bf:Array Edge}{g h:Option (Nat×Bool)}{b o m i:Nat}
theorem nf (hx:ev ρ x= .pointer (some ⟨b,o,none⟩))(fa:FAt t i m)(n:RL Tryz.prog N ops Q rest (upd (upd ρ d (.pointer (some ⟨b,o,none⟩))) f (.pointer (some ⟨b,o+m,none⟩))) w)(hy:ev (upd ρ d (.pointer (some ⟨b,o,none⟩))) y= .pointer (some ⟨b,o,none⟩):=by exact rfl)(hw:fP N ops ρ ⟨some d,.nilCheck x,ty,pos,af,g⟩=true:=by exact rfl)(hd:Nat.blt d N=true:=by exact rfl)(hv:fP N ops (upd ρ d (.pointer (some ⟨b,o,none⟩))) ⟨some f,.fieldAddr t y i,tz,qos,bf,h⟩=true:=by exact rfl)(hf:Nat.blt f N=true:=by exact rfl):RL Tryz.prog N ops Q (⟨some d,.nilCheck x,ty,pos,af,g⟩::⟨some f,.fieldAddr t y i,tz,qos,bf,h⟩::rest) ρ w:=zN (kH hx) (zN (fa hy) n hv hf) hw hd
theorem Xn {I:World->Prop}{κ:List MxM.Kd}{K:MxM.Mm->Env->World->Prop}{k q:Nat}{M:MxM.Mm}{σ:List Nat}(hx:ev ρ x= .pointer (some ⟨b,o,none⟩))(fa:FAt t i m)(n:MxM.XL Tryz.prog I N ops κ K M σ rest (upd (upd ρ d (.pointer (some ⟨b,o,none⟩))) f (.pointer (some ⟨b,o+m,none⟩))) w)(hy:ev (upd ρ d (.pointer (some ⟨b,o,none⟩))) y= .pointer (some ⟨b,o,none⟩):=by exact rfl)(hk:MxM.kdOf κ k= .pure:=by exact rfl)(hq:MxM.kdOf κ q= .pure:=by exact rfl)(hw:fP N ops ρ ⟨some d,.nilCheck x,ty,pos,af,g⟩=true:=by exact rfl)(hd:Nat.blt d N=true:=by exact rfl)(hv:fP N ops (upd ρ d (.pointer (some ⟨b,o,none⟩))) ⟨some f,.fieldAddr t y i,tz,qos,bf,h⟩=true:=by exact rfl)(hf:Nat.blt f N=true:=by exact rfl):MxM.XL Tryz.prog I N ops κ K M (k::q::σ) (⟨some d,.nilCheck x,ty,pos,af,g⟩::⟨some f,.fieldAddr t y i,tz,qos,bf,h⟩::rest) ρ w:=XQ (kH hx) (XQ (fa hy) n hq hv hf) hk hw hd
theorem nJ {I:World->Prop}{κ:List MxM.Kd}{K:MxM.Mm->Env->World->Prop}{M:MxM.Mm}{σ O S:List Nat}{v u:World}{l r:List Th}(G:Hd O v u S r)(H:Hd O u w (bks r) l)(n: ∀a,Hd O v a S l->K M ρ a):MxM.XL P I N ops κ K M σ [] ρ w:=MxM.xI λa s=>n a (G.rj (H.Z s))
theorem RH {O S bs:List Nat}{v:World}{l:List Th}{α:Type}{R:Go.Lf.Rt α}{e:TypeId}{D:Hol}{c:List Value}{xl:List α}{j:Int}{a:α}{z y:Value}{n p:Nat}(f:aAo P t)(H:Hd O v w S l)(i q:Nat)(hi:l[i]? =some (.tr (Rt.row R e ((j.toNat,c)::D)) [z] bs xl))(hv:z= .slice (some ⟨b,o,none⟩) n p)(hx:at' xl j=some a)(hq:c[q]? =some y)(k:RL P N ops Q rest (upd ρ d y) w)(he:ev ρ x= .pointer (some ⟨b,o+j.toNat*R.sz+q,none⟩):=by exact rfl)(hw:fP N ops ρ ⟨some d,.load t x,ty,pos,af,g⟩=true:=by exact rfl)(hd:Nat.blt d N=true:=by exact rfl):RL P N ops Q (⟨some d,.load t x,ty,pos,af,g⟩::rest) ρ w:=zN (yF f he (Cells.get (H.holeW i hi hv hx Z aS) hq)) k hw hd
theorem XH {h:World}{r:List Nat}{κ:List MxM.Kd}{K:MxM.Mm->Env->World->Prop}{k:Nat}{M:MxM.Mm}{σ O S bs:List Nat}{v:World}{l:List Th}{α:Type}{R:Go.Lf.Rt α}{e:TypeId}{D:Hol}{c:List Value}{xl:List α}{j:Int}{a:α}{z y:Value}{n p:Nat}(u:aAo P t)(H:Hd O v w S l)(i q:Nat)(hi:l[i]? =some (.tr (Rt.row R e ((j.toNat,c)::D)) [z] bs xl))(hv:z= .slice (some ⟨b,o,none⟩) n p)(hx:at' xl j=some a)(hq:c[q]? =some y)(m:MxM.XL P (λf=>Only r h f) N ops κ K M σ rest (upd ρ d y) w)(he:ev ρ x= .pointer (some ⟨b,o+j.toNat*R.sz+q,none⟩):=by exact rfl)(hk:MxM.kdOf κ k= .read:=by exact rfl)(hw:fP N ops ρ ⟨some d,.load t x,ty,pos,af,g⟩=true:=by exact rfl)(hd:Nat.blt d N=true:=by exact rfl):MxM.XL P (λf=>Only r h f) N ops κ K M (k::σ) (⟨some d,.load t x,ty,pos,af,g⟩::rest) ρ w:=MxM.yX oS hk hw hd (λ_ s=>yF u he (Cells.get ((H.Z s).holeW i hi hv hx rfl aS) hq)) m
end
theorem _root_.Go.Lf.Hd.im {O S:List Nat}{v w:World}{l:List Th}(H:Hd O v w S l)(i:Nat){it:Th}(h:l[i]? =some it):it.holds (frees O l) w:=H.V h
theorem _root_.Go.Lf.Hm.im {n:Nat}{A:Nat->Prop}{O S:List Nat}{v w:World}{l:List Th}(H:Hm n A O v w S l)(i:Nat){it:Th}(h:l[i]? =some it):it.holds (frm O l v) w:=H.V h
theorem p1z {P:Program}{R:Ending->World->Prop}{ρ:Env}{w:World}{rs:Array ResultVar}{t:Tmp}{v:Value}(h:R (.returned v) w)(hr:rs= #[.tmp t]:=by exact rfl)(a:ρ t=v:=by exact rfl):aFh P rs R .ret ρ w:=aIg hr a h
abbrev bkE (b:Nat)(c d e f g h i j k l:Value)(x:gG):Th:= .blk b [c,d,e,f,g,h,i6 x.frames,i,j,i6 x.first,k,l] 135
theorem en4:En 4:=fH Tryz.func4
theorem en12:En 12:=fH Tryz.func12
theorem en14:En 14:=fH Tryz.func14
theorem en20:En 20:=fH Tryz.func20
theorem en21:En 21:=fH Tryz.func21
theorem en22:En 22:=fH Tryz.func22
theorem en25:En 25:=fH Tryz.func25
theorem en28:En 28:=fH Tryz.func28
theorem en29:En 29:=fH Tryz.func29
theorem en33:En 33:=fH Tryz.func33
theorem en38:En 38:=fH Tryz.func38
theorem bEo:En 54:=fH Tryz.func54
theorem en57:En 57:=fH Tryz.func57
theorem en58:En 58:=fH Tryz.func58
theorem aYv:En 59:=fH Tryz.func59
theorem en61:En 61:=fH Tryz.func61
theorem aXe:En 73:=fH Tryz.func73
theorem bEn:En 74:=fH Tryz.func74
theorem en75:En 75:=fH Tryz.func75
theorem en76:En 76:=fH Tryz.func76
theorem en77:En 77:=fH Tryz.func77
theorem en78:En 78:=fH Tryz.func78
theorem en79:En 79:=fH Tryz.func79
theorem en84:En 84:=fH Tryz.func84
theorem en86:En 86:=fH Tryz.func86
theorem en95:En 95:=fH Tryz.func95
theorem en106:En 106:=fH Tryz.func106
theorem en107:En 107:=fH Tryz.func107
theorem en108:En 108:=fH Tryz.func108
theorem aTy:En 110:=fH Tryz.func110
theorem en111:En 111:=fH Tryz.func111
theorem en114:En 114:=fH Tryz.func114
theorem en126:En 126:=fH Tryz.func126
theorem en127:En 127:=fH Tryz.func127
theorem aTz:En 131:=fH Tryz.func131
theorem en137:En 137:=fH Tryz.func137
theorem aEa:En 138:=fH Tryz.func138
theorem en140:En 140:=fH Tryz.func140
theorem bGu:En 141:=fH Tryz.func141
theorem en147:En 147:=fH Tryz.func147
theorem bHx:En 155:=fH Tryz.func155
theorem en156:En 156:=fH Tryz.func156
theorem en157:En 157:=fH Tryz.func157
theorem aOy:En 158:=fH Tryz.func158
theorem bEr:En 170:=fH Tryz.func170
theorem bHi:En 172:=fH Tryz.func172
theorem en173:En 173:=fH Tryz.func173
theorem en185:En 185:=fH Tryz.func185
theorem en210:En 210:=fH Tryz.func210
theorem en212:En 212:=fH Tryz.func212
theorem en213:En 213:=fH Tryz.func213
theorem en214:En 214:=fH Tryz.func214
theorem aYu:En 215:=fH Tryz.func215
theorem en217:En 217:=fH Tryz.func217
theorem en220:En 220:=fH Tryz.func220
theorem en222:En 222:=fH Tryz.func222
theorem en224:En 224:=fH Tryz.func224
theorem en226:En 226:=fH Tryz.func226
theorem en229:En 229:=fH Tryz.func229
theorem en231:En 231:=fH Tryz.func231
theorem en233:En 233:=fH Tryz.func233
theorem en235:En 235:=fH Tryz.func235
theorem mixed:Tryz.prog.follows .mixedOrders=true:=by kernel_rfl
theorem Fa1w {b c d:Int}{r:Bool}(a:Fa1 b c d=some r)(H:Hd O w w S []):
  Rt 14 [i6 b,i6 c,i6 d] (vb r) w O S []:=by
 refine CW 15 Tryz.func14 ?_;refine SR<|zB (vb false)<|RM<|bE a λf a h=>sJ H (rg [6,9]) [(6,vb f)] ?_ ?_;refine zF<|zC (i6 b)<|zC (i6 c)<|vX a λi a=>RJ a (λa=>zC (i6 b)<|zC (i6 d)<|aHh a λe a=>pt (vb e)<|zB (vb e) ?_) λa=>?_;cases a;exact jn<|mt () (H.U []);refine zO<|zO<|zO<|pf (vb false)<|zB (vb false) ?_;cases a;exact jn<|mt () (H.U []);rintro _ ρ j H;have a:=h;cases a;exact zI<|p1z ⟨Z,H.U []⟩
theorem bCs {b c d:Int}{r:Bool}(a:Fat b c d=some r)(H:Hd O w w S []):
  Rt 54 [i6 b,i6 c,i6 d] (vb r) w O S []:=by
 refine CW 15 Tryz.func54 ?_;refine SR<|zB (vb false)<|RM<|bE a λf a h=>sJ H (rg [6,9]) [(6,vb f)] ?_ ?_;refine zF<|zC (i6 b)<|zC (i6 c)<|vX a λi a=>RJ a (λa=>?_) (λa=>?_);refine zC (i6 b)<|zC (i6 d)<|aHh a λe a=>pt (vb e)<|zB (vb e) ?_;cases a;exact jn<|mt () (H.U []);refine zO<|zO<|zO<|pf (vb false)<|zB (vb false) ?_;cases a;exact jn<|mt () (H.U []);rintro _ ρ j H;have a:=h;cases a;exact zI<|p1z ⟨rfl,H.U []⟩
theorem Ffew {b:Str}{r:Bool}(a:Ffe b=some r)(H:Hd O w w S []):
  Rt 55 [sb b] (vb r) w O S []:=by
 refine CW 21 Tryz.func55 ?_;refine SR<|zB (vb false)<|RM<|SQ<|SR<|zC (sb b)<|RM<|zJ<|bE a λc a d=>sJ H (rg [4,17]) [(4,vb c)] ?_ ?_;refine SR<|RLb a (wF (s1:=b) (s2:=[112,104,97,115,101]) Z Z) λe a=>zB (vb e)<|RM<|WJ a ?_ ?_<;>intro a;cases a;exact js<|mt () (H.U []);refine SR<|RLb a (wF (s1:=b) (s2:=[109,111,118,101]) Z Z) λf a=>zB (vb f)<|RM<|WJ a ?_ ?_<;>intro a;cases a;exact js<|mt () (H.U []);refine SR<|RLb a (wF (s1:=b) (s2:=[114,117,108,101]) Z Z) λh a=>zB (vb h)<|RM<|WJ a ?_ ?_<;>intro a;cases a;exact js<|mt () (H.U []);refine SR<|RLb a (wF (s1:=b) (s2:=[105,102]) Z Z) λi a=>zB (vb i)<|RM<|WJ a ?_ ?_<;>intro a;cases a;exact js<|mt () (H.U []);refine SR<|RLb a (wF (s1:=b) (s2:=[111,114]) Z Z) λj a=>zB (vb j)<|RM<|WJ a ?_ ?_<;>intro a;cases a;exact js<|mt () (H.U []);refine SR<|RLb a (wF (s1:=b) (s2:=[97,110,100]) Z Z) λk a=>zB (vb k)<|RM<|WJ a ?_ ?_<;>intro a;cases a;exact js<|mt () (H.U []);refine SR<|RLb a (wF (s1:=b) (s2:=[116,114,117,101]) Z Z) λl a=>zB (vb l)<|RM<|WJ a ?_ ?_<;>intro a;cases a;exact js<|mt () (H.U []);refine SR<|RLb a (wF (s1:=b) (s2:=[102,97,108,115,101]) Z Z) λn a=>zB (vb n)<|RM<|WJ a ?_ ?_<;>intro a;cases a;exact js<|mt () (H.U []);refine SR<|RLb a (wF (s1:=b) (s2:=[115,116,101,97,100,121]) Z Z) λo a=>zB (vb o)<|RM<|WJ a ?_ ?_<;>intro a;cases a
 exact js<|mt () (H.U []);refine SR<|RLb a (wF (s1:=b) (s2:=[110,111,116]) Z Z) λp a=>zB (vb p)<|RM<|WJ a ?_ ?_<;>intro a;cases a;exact js<|mt () (H.U []);refine SR<|RLb a (wF (s1:=b) (s2:=[102,111,114]) Z Z) λq a=>zB (vb q)<|RM<|WJ a ?_ ?_<;>intro a;cases a;exact js<|mt () (H.U []);refine SR<|RLb a (wF (s1:=b) (s2:=[119,105,116,104,105,110]) Z Z) λs a=>zB (vb s)<|RM<|WJ a ?_ ?_<;>intro a;cases a;exact js<|mt () (H.U []);refine SR<|RLb a (wF (s1:=b) (s2:=[99,111,117,110,116]) Z Z) λt a=>zB (vb t)<|RM<|WJ a ?_ ?_<;>intro a;cases a;exact js<|mt () (H.U []);refine SR<|RLb a (wF (s1:=b) (s2:=[111,102]) Z Z) λu a=>zB (vb u)<|RM<|WJ a ?_ ?_<;>intro a;cases a;exact js<|mt () (H.U []);refine SR<|RLb a (wF (s1:=b) (s2:=[114,105,115,101,115]) Z Z) λv a=>zB (vb v)<|RM<|WJ a ?_ ?_<;>intro a;cases a;exact js<|mt () (H.U []);refine zF<|RLb a (wF (s1:=b) (s2:=[115,105,110,99,101]) Z Z) λx a=>zB (vb x) ?_;cases a;exact jn<|mt () (H.U []);rintro _ ρ y H;have a:=d;refine WJ a (λa=>SR<|zB (vb true)<|RM ?_) λa=>?_;cases a;exact zI<|zM<|zH<|p1z ⟨Z,H.U []⟩;refine yI<|zQ<|zG<|KN<|SR<|zB (vb false)<|RM ?_;cases a;exact zI<|p1z ⟨Z,H.U []⟩
theorem Ferw {b:Int}{r:Bool}(a:Fer b=some r)(H:Hd O w w S []):
  Rt 56 [.int .u8 b] (vb r) w O S []:=by
 refine CW 21 Tryz.func56 ?_;refine SR<|zB (vb false)<|RM<|bE a λe a f=>sJ H (rg [2,19]) [(2,vb e)] ?_ ?_;refine zF<|zC (.int .u8 b)<|vX a λn a=>bE a λh a i=>xR 4 [5,6,7,8] [(8,vb h)] (λwl=>Hd O w wl S []) ?_ ?_;refine RJ a (λa=>zC (.int .u8 b)<|aHh a λj a=>pt (vb j) ?_) λa=>?_;cases a;exact jn<|meet ⟨(yL Z yT),H.U []⟩;refine zO<|zO<|pf (vb false) ?_;cases a;exact jn<|meet ⟨(yL Z yT),H.U []⟩;rintro ρ o H;have a:=i;refine bE a λk a l=>xR 8 [9,10,11,12,13,14,15,16] [(16,vb k)] (λwl=>Hd O w wl S []) ?_ ?_;refine RJ a (λa=>zO<|zO<|zO<|zO<|zO<|zO<|pt (vb true) ?_) λa=>?_;cases a;exact jn<|meet ⟨(yL Z yT),H.U []⟩;refine zC (.int .u8 b)<|vX a λp a=>RJ a (λa=>zC (.int .u8 b)<|aHh a λc a=>pt (vb c)<|pf (vb c) ?_) λa=>?_;cases a;exact jn<|meet ⟨(yL Z yT),H.U []⟩;refine zO<|zO<|pf (vb false)<|pf (vb false) ?_;cases a;exact jn<|meet ⟨(yL Z yT),H.U []⟩;rintro ρ q H;have a:=l;refine RJ a (λa=>zO<|zO<|pt (vb true)<|zB (vb true) ?_) λa=>?_;cases a;exact jn<|mt () (H.U []);refine zC (.int .u8 b)<|fO a λd a=>pf (vb d)<|zB (vb d) ?_;cases a;exact jn<|mt () (H.U []);rintro _ ρ s H;have a:=f;cases a;exact zI<|p1z ⟨Z,H.U []⟩
theorem Faww {b:Str}{r:Bool}(a:Faw b=some r)(H:Hd O w w S []):
  Rt 28 [sb b] (vb r) w O S []:=by
 refine CW 33 Tryz.func28 ?_;refine SR<|zB (vb false)<|RM<|SQ<|bE a λd a e=>sJ H (rg [4,18]) [(21,vb d)] ?_ ?_;refine zF<|zC (sb b)<|RLi a (aIk (s1:=b) u9 Z) λA a=>bE a λB f a=>RC bEo (bCs f (H.W [] [])) H λC H=>dJ a λD a=>bE a λh a i=>xR 5 [8,9,10,11,12] [(12,vb h)] (λwl=>Hd O w wl S []) ?_ ?_;refine RJ a (λa=>zO<|zO<|zO<|pt (vb true) ?_) λa=>?_;cases a;exact jn<|meet ⟨(yL Z yT),H.U []⟩;refine zC (sb b)<|bE a λE j a=>zN (aNl (s1:=b) (q:=0) u9 Z Z j)<|fV a λk a=>pf (vb k) ?_;cases a;exact jn<|meet ⟨(yL Z yT),H.U []⟩;rintro ρ F H;have a:=i;refine bE a λl a n=>xR 5 [13,14,15,16,17] [(17,vb l)] (λwl=>Hd O w wl S []) ?_ ?_;refine RJ a (λa=>zO<|zO<|zO<|pt (vb true) ?_) λa=>?_;cases a;exact jn<|meet ⟨(yL Z yT),H.U []⟩;refine zC (sb b)<|bE a λG o a=>zN (aNl (s1:=b) (q:=0) u9 Z Z o)<|kJ a λp a=>pf (vb p) ?_;cases a;exact jn<|meet ⟨(yL Z yT),H.U []⟩;rintro ρ I H;have a:=n;refine RJ a (λa=>zO<|zO<|pt (vb true) ?_) λa=>?_;cases a;exact jn<|mt () (H.U []);refine zC (sb b)<|bE a λs t a=>RC (fH Tryz.func55) (Ffew t (H.W [] [])) H λJ H=>pf (vb s) ?_;cases a;exact jn<|mt () (H.U []);rintro _ ρ K H;have a:=e;refine WJ a (λa=>SR<|zB (vb false)<|RM ?_) λa=>?_;cases a;exact zI<|zH<|p1z ⟨Z,H.U []⟩;refine WZ<|jk a H (rg [2,2,22,11]) (λx (y:Unit)=>[]) (λx y=>[]) [] (λL a=>?_) ?_;refine SR<|zC (sb b)<|RLi a (aIk (s1:=b) u9 Z) λM a=>zC (i6 0)<|RM<|zJ<|lo a H (rg [2,2,24,9]) (λx (y:Unit)=>[(24,i6 x)]) (λx y=>[]) [] () (H.U []) ?_
 clear H a;rintro N c _ ρ P H a;refine SR<|fV a λQ a=>RM<|SQ<|WJ a (λa=>WZ<|SQ<|zJ<|SR<|zC (i6 c)<|zB (i6 c)<|RM<|SR<|zC (sb b)<|zC (i6 c)<|bE a λ_ u a=>zN (aNl (s1:=b) (q:=c) u9 Z Z u)<|bE a λT v a=>RC (fH Tryz.func56) (Ferw v (H.W [] [])) H λU H=>dJ a λV a=>RM<|WJ a (λa=>SR<|zB (vb false)<|RM ?_) λa=>?_) λa=>?_;cases a;exact zI<|zM<|zH<|zH<|zM<|zH<|p1z ⟨Z,H.U []⟩;exact yI<|zQ<|zG<|KN<|zF<|fU a λz a=>zC (i6 z)<|jn<|me a () (H.U []);exact zZ<|zT<|zT<|zV<|zG<|me a () (H.U []);rintro _ _ ρ X H a;refine SR<|zB (vb true)<|RM ?_;cases a;exact zI<|p1z ⟨Z,H.U []⟩
theorem Fbhw {a:Str}{r:Bool}(b:Fbh a=some r)(H:Hd O w w S []):
  Rt 33 [sb a] (vb r) w O S []:=by
 refine CW 5 Tryz.func33 ?_;refine SR<|zB (vb false)<|RM<|SR<|zC (sb a)<|bE b λc d b=>RC en28 (Faww d (H.W [] [])) H λe H=>zB (vb c)<|RM ?_;cases b;exact zI<|p1z ⟨Z,H.U []⟩
theorem Fgpw {a b:Track}{c d:Value}{e:Nat}{r:Bool}(f:Fgp a b=some r)(H:Hd O w w S [.blk e [sb b.Name,i6 b.Series.Den,d,i6 b.Long] 85,aDh c a.Series.Samples,aDh d b.Series.Samples]):
  Rt 93 [.agg [sb a.Name,i6 a.Series.Den,c,i6 a.Long].toArray,gX e] (vb r) w O S [.blk e [sb b.Name,i6 b.Series.Den,d,i6 b.Long] 85]:=by
 refine CW 9 Tryz.func93 ?_;refine SR<|xb (yO (cs:=[sb a.Name,i6 a.Series.Den,c,i6 a.Long]) Z H) λi j H=>zB (vb false)<|RM<|SR<|zN (rG Z)<|Ld eQ H 3 0 Z Z<|zN (rG Z)<|Ld eQ H 0 0 Z Z<|RLb f (wF (s1:=a.Name) (s2:=b.Name) Z Z) λh f=>zB (vb h)<|RM ?_;cases f;exact zI<|p1z ⟨Z,H.U [0]⟩
theorem Fehw {h:List Track}{p1c0:Track}{c f:Value}{d:Nat}{r:Int}(a:Feh h p1c0=some r)(H:Hd O w w S [.blk d [sb p1c0.Name,i6 p1c0.Series.Den,f,i6 p1c0.Long] 85,nV c h,aDh f p1c0.Series.Samples]):
  Rt 118 [c,.func (.func 93) #[] #[gX d]] (i6 r) w O S [.blk d [sb p1c0.Name,i6 p1c0.Series.Den,f,i6 p1c0.Long] 85]:=by
 refine CW 19 Tryz.func118 ?_;refine SR<|zB (i6 0)<|RM<|jk a H (rg [4,15]) (λx (y:Unit)=>[]) (λx y=>[]) [0,2] (λA a=>?_) ?_;refine SR<|zC c<|ln a (H.im 1 Z) u50 λB a=>zC (i6 0)<|RM<|zJ<|lo a H (rg [4,2,8,11]) (λx (y:Unit)=>[(8,i6 x)]) (λx y=>[]) [0,2,1] () (H.U [0,2,1]) ?_;clear H a;rintro C b _ ρ D H a;have H:=un3 H;refine SR<|fV a λE a=>RM<|SQ<|WJ a (λa=>WZ<|SQ<|zJ<|SR<|zC (i6 b)<|zB (i6 b)<|RM<|SR<|zC (.func (.func 93) #[] #[gX d])<|zC c<|zC (i6 b)<|bE a λe i a=>?_) λa=>?_;obtain⟨k,l,F,G,n,o,p,q,s⟩:=yZ (H.im 2 Z) i;obtain⟨j,rfl,t⟩:=xW o;have H:=H.fzs [.at k (l+b.toNat*4) _,.sl eH j e.Series.Samples] ⟨⟨p,q,s⟩,t,T1⟩;refine ix u50 pY n i<|zN (yP (zY (cs:=[sb e.Name,i6 e.Series.Den,j,i6 e.Long]) aIs Z pY Z (H.im 3 Z).2.2) Z)<|bE a λI u a=>xH Z Z (jF (fH Tryz.func93) Z Z) (Fgpw u (H.W [0] [4,1])) ?_;rintro _ J ⟨rfl,v⟩;have H:=un5<|H.back [0] [4,1] Z v;refine⟨_,Z,?_⟩;refine RM<|WJ a (λa=>SR<|zC (i6 b)<|zB (i6 b)<|RM ?_) λa=>?_;cases a;exact zI<|zM<|zH<|zH<|zM<|zH<|p1z ⟨Z,H.U [4]⟩;exact yI<|zQ<|zG<|KN<|zF<|fU a λz a=>zC (i6 z)<|jn<|me a () (H.U [4,0,1]);exact zZ<|zT<|zT<|zV<|zG<|me a () (H.U [0,1]);rintro _ _ ρ K H a;have H:=un2 H;refine SR<|zB (i6 (-1))<|RM ?_;cases a;exact zI<|p1z ⟨Z,H.U [0]⟩
theorem Ffmw {e:List Track}{p1c0:Track}{c d:Value}{b:Nat}{r:Bool}(a:Ffm e p1c0=some r)(H:Hd O w w S [.blk b [sb p1c0.Name,i6 p1c0.Series.Den,d,i6 p1c0.Long] 85,nV c e,aDh d p1c0.Series.Samples]):
  Rt 92 [c,.func (.func 93) #[] #[gX b]] (vb r) w O S [.blk b [sb p1c0.Name,i6 p1c0.Series.Den,d,i6 p1c0.Long] 85]:=by
 refine CW 9 Tryz.func92 ?_;refine SR<|zB (vb false)<|RM<|SR<|zC c<|zC (.func (.func 93) #[] #[gX b])<|bE a λj f a=>cAz (fH Tryz.func118) (Fehw f (H.W [0] [1,2])) λk h=>?_;have H:=un3<|H.back [0] [1,2] Z h;refine vX a λi a=>zB (vb i)<|RM ?_;cases a;exact zI<|p1z ⟨Z,H.U [2]⟩
theorem Fbkw {b c d:Int}{r:Bool}(a:Fbk b c d=some r)(H:Hd O w w S []):
  Rt 141 [i6 b,i6 c,i6 d] (vb r) w O S []:=by
 refine CW 15 Tryz.func141 ?_;refine SR<|zB (vb false)<|RM<|bE a λf a h=>sJ H (rg [6,9]) [(6,vb f)] ?_ ?_;refine zF<|zC (i6 b)<|zC (i6 c)<|vX a λi a=>RJ a (λa=>zC (i6 b)<|zC (i6 d)<|aHh a λe a=>pt (vb e)<|zB (vb e) ?_) λa=>?_;cases a;exact jn<|mt () (H.U []);refine zO<|zO<|zO<|pf (vb false)<|zB (vb false) ?_;cases a;exact jn<|mt () (H.U []);rintro _ ρ j H;have a:=h;cases a;exact zI<|p1z ⟨Z,H.U []⟩
theorem Feaw {f:Series}{h:Value}{r:Int×Int}(c:Fea f=some r)(H:Hd O w w S [aDh h f.Samples]):
  Rt 119 [.agg [i6 f.Den,h].toArray] (.tuple #[i6 r.1,i6 r.2]) w O S []:=by
 refine CW 67 Tryz.func119 ?_;refine SR<|xb (yO (cs:=[i6 f.Den,h]) Z H) λu _ H=>zB (i6 0)<|zB (i6 0)<|RM<|SQ<|SR<|zN (aOe Z)<|Ld gY H 1 0 Z Z<|bE c λ_ z c=>RC bGu (Fbkw z (H.W [] [])) H λ_ H=>dJ c λ_ c=>RM<|WJ c (λc=>SR<|zB (i6 (-1))<|zB (i6 9)<|RM ?_) λc=>?_;cases c;exact zI<|zH<|mG Z Z Z ⟨Z,H.U []⟩;refine WZ<|SQ<|SR<|zN (kL Z)<|Ld qB H 1 1 Z Z<|ln c (H.im 0 Z) u81 λ_ c=>kJ c λ_ c=>RM<|WJ c (λc=>SR<|zB (i6 (-1))<|zB (i6 3)<|RM ?_) λc=>?_;cases c;exact zI<|zH<|mG Z Z Z ⟨Z,H.U []⟩;refine WZ<|jk c H (rg [2,4,14,53]) (λx (y:Unit)=>[]) (λx y=>[]) [] (λ_ c=>?_) ?_;refine SR<|zN (kL Z)<|Ld qB H 1 1 Z Z<|ln c (H.im 0 Z) u81 λ_ c=>zC (i6 0)<|RM<|zJ<|lo c H (rg [2,4,17,50]) (λx (y:Unit)=>[(17,i6 x)]) (λx y=>[]) [0,1] () (H.U [0,1]) ?_;clear H c;rintro _ d _ ρ _ H c;have H:=un2 H;refine SR<|fV c λ_ c=>RM<|SQ<|WJ c (λc=>WZ<|SQ<|zJ<|SR<|zC (i6 d)<|bE c λe l c=>?_) λc=>?_;obtain⟨n,o,a0,_,A,B,C,D,E⟩:=yZ (H.im 0 Z) l;obtain rfl:=wE B;have H:=H.fz (.at n (o+d.toNat*3) _) ⟨C,D,E⟩;refine ix u81 kX A l<|zN (yP (zY (cs:=[i6 e.At,i6 e.N,i6 e.Mark]) uS Z kX Z (H.im 2 Z).2.2) Z)<|xb (yQ aBh H) λF a2 H=>zB (i6 d)<|xu (yD (vs:=[i6 e.At,i6 e.N,i6 e.Mark]) H 3 Z kX Z Z Z ⟨Z,Z,Z,T1⟩ Z) λa3 H=>RM<|zJ<|bE c λG c I=>jo H (rg [22,17]) (λ(g:Unit)=>[(22,vb G)]) (λg=>[]) [0,1,3] ?_ ?_
 refine zF<|zN (aBk Z)<|Ld gY H 3 0 Z Z<|bE c λa4 J c=>RC bGu (Fbkw J (H.W [] [])) H λa5 H=>dJ c λ_ c=>bE c λK c L=>xR 6 [27,28,29,30,31,32] [(32,vb K)] (λwl=>Hd O w wl S [aDh h f.Samples,.blk u [i6 f.Den,h] 83,.fz (.at n (o+d.toNat*3) [i6 e.At,i6 e.N,i6 e.Mark]),.blk F [i6 e.At,i6 e.N,i6 e.Mark] 88]) ?_ ?_;refine RJ c (λc=>zO<|zO<|zO<|zO<|pt (vb true) ?_) λc=>?_;cases c;exact jn<|meet ⟨(yL Z yT),H.U [0,1,2,3]⟩;refine zN (aBj Z)<|Ld gY H 3 1 Z Z<|bE c λ_ M c=>RC bGu (Fbkw M (H.W [] [])) H λ_ H=>dJ c λP c=>pf (vb P) ?_;cases c;exact jn<|meet ⟨(yL Z yT),H.U [0,1,2,3]⟩;rintro ρ a9 H;have c:=L;refine RJ c (λc=>zO<|zO<|zO<|zO<|pt (vb true)<|zB (vb true) ?_) λc=>?_;cases c;exact jn<|mt () (H.U [0,1,3]);refine zN (aFk Z)<|Ld gY H 3 2 Z Z<|bE c λ_ Q c=>RC bGu (Fbkw Q (H.W [] [])) H λ_ H=>dJ c λp c=>pf (vb p)<|zB (vb p) ?_;cases c;exact jn<|mt () (H.U [0,1,3]);rintro _ ρ _ H;have H:=un3 H;have c:=I;refine WJ c (λc=>SR<|zC (i6 d)<|zB (i6 d)<|zB (i6 9)<|RM ?_) λc=>?_;cases c;exact zI<|zM<|zM<|zH<|zH<|zM<|zH<|mG Z Z Z ⟨Z,H.U []⟩;refine bE c λR c T=>sJ H (rg [40,9]) [(40,vb R)] ?_ ?_;refine zF<|zN (aBj Z)<|Ld gY H 2 1 Z Z<|kT c λ_ c=>RJ c (λc=>zN (aFk Z)<|Ld gY H 2 2 Z Z<|aHh c λq c=>pt (vb q)<|zB (vb q) ?_) λc=>?_;cases c;exact jn<|mt () (H.U [0,1,2]);refine zO<|zO<|zO<|pf (vb false)<|zB (vb false) ?_
 cases c;exact jn<|mt () (H.U [0,1,2]);rintro _ ρ _ H;have c:=T;refine WJ c (λc=>SR<|zC (i6 d)<|zB (i6 d)<|zB (i6 2)<|RM ?_) λc=>?_;cases c;exact zI<|zM<|zM<|zH<|zH<|zM<|zH<|mG Z Z Z ⟨Z,H.U []⟩;refine bE c λU c V=>jo H (rg [50,15]) (λ(g:Unit)=>[(50,vb U)]) (λg=>[]) [0,1] ?_ ?_;have s:=H;have H:=H.rb;have bf:=H;refine yM H (rg [0,15]) (kz [0,0,0,0,1,0,1,0,0,0,0,1,0,0,0]) mixed ?_;refine XM (i6 d)<|lE c λX Y c=>XQ (wB (wU (a:=d) (b:=0) Z Z) Y)<|MxM.XL_splitb (b:=X) Z Z Z Z (λj=>?_) (λj=>?_);have c:=rY j c;refine XQ (aBk Z)<|XR gY H 2 0 Z Z<|XQ (kL Z)<|XR qB H 1 1 Z Z<|XM (i6 d)<|lE c λaa ab c=>XQ (mV (a:=d) (b:=1) Z Z ab)<|bE c λac k c=>?_;obtain⟨ad,ae,_,_,af,ag,ah,ai,aj⟩:=yZ (H.im 0 Z) k;obtain rfl:=wE ag;have H:=H.fz (.at ad (ae+aa.toNat*3) _) ⟨ah,ai,aj⟩;refine XQ (yY u81 kX af Z (zU k).1 (zU k).2.1 Z Z)<|XQ (aBk Z)<|MxM.yX oS Z Z Z (λ_ ak=>yF gY Z (Cells.get ((H.Z ak).V (i:=3) Z).2.2 (i:=0) Z)) ?_;refine lE c λt al c=>XQ (wB (aOc (a:=e.At) (b:=ac.At) Z Z) al)<|XQ (aT (v:=vb t) Z Z)<|XQ (yJ (v:=vb t) Z)<|nJ s H λ_ H=>?_;cases c;exact zG<|mt () (H.U [0,1]);have c:=sH j c;refine XO<|MxM.xY oS Z Z Z ?_;refine XO<|MxM.xY oS Z Z Z ?_;refine XO<|XO<|XO<|XO<|MxM.xY oS Z Z Z ?_;refine XO<|XQ (kV (v:=vb false) Z Z)<|XQ (yJ (v:=vb false) Z)<|nJ s H λ_ H=>?_;cases c;exact zG<|mt () (H.U [0,1])
 rintro _ ρ _ H;have H:=un2 H;have c:=V;refine WJ c (λc=>SR<|zC (i6 d)<|zB (i6 d)<|zB (i6 10)<|RM ?_) λc=>?_;cases c;exact zI<|zM<|zM<|zH<|zH<|zM<|zH<|mG Z Z Z ⟨Z,H.U []⟩;exact yI<|zQ<|zQ<|zG<|KN<|zF<|fU c λam c=>zC (i6 am)<|jn<|me c () (H.U [0,1]);exact zZ<|zT<|zT<|zV<|zG<|me c () (H.U []);rintro _ _ ρ _ H c;refine SR<|zB (i6 (-1))<|zB (i6 0)<|RM ?_;cases c;exact zI<|mG Z Z Z ⟨Z,H.U []⟩
theorem Ffkw {b:Series}{c:Value}{r:Int}(d:Ffk b=some r)(H:Hd O w w S [aDh c b.Samples]):
  Rt 94 [.agg [i6 b.Den,c].toArray] (i6 r) w O S []:=by
 refine CW 11 Tryz.func94 ?_;refine SR<|xb (yO (cs:=[i6 b.Den,c]) Z H) λh i H=>zB (i6 0)<|RM<|SR<|lb H 1 Z aJq aQh ?_;obtain⟨⟨e,a⟩,f,d⟩:=yN d;refine RC (fH Tryz.func119) (Feaw f (H.W [] [0])) H λj H=>zC (.tuple #[i6 e,i6 a])<|zN (yR (v:=i6 e) Z Z)<|zN (yR (v:=i6 a) Z Z)<|zB (i6 e)<|zB (i6 a)<|RM<|SR<|zC (i6 a)<|zB (i6 a)<|RM ?_;cases d;exact zI<|p1z ⟨Z,H.U []⟩
theorem Fepw {h:List Track}{c:Value}{r:Int}(a:Fep h=some r)(H:Hd O w w S [nV c h]):
  Rt 53 [c] (i6 r) w O S []:=by
 refine CW 36 Tryz.func53 ?_;refine SR<|zB (i6 0)<|RM<|SQ<|SR<|zC c<|ln a (H.im 0 Z) u50 λG a=>kJ a λI a=>RM<|WJ a (λa=>SR<|zB (i6 3)<|RM ?_) λa=>?_;cases a;exact zI<|zH<|p1z ⟨Z,H.U []⟩;refine WZ<|jk a H (rg [2,4,9,27]) (λx (y:Unit)=>[]) (λx y=>[]) [] (λJ a=>?_) ?_;refine SR<|zC c<|ln a (H.im 0 Z) u50 λK a=>zC (i6 0)<|RM<|zJ<|lo a H (rg [2,4,11,25]) (λx (y:Unit)=>[(11,i6 x)]) (λx y=>[]) [0] () (H.U [0]) ?_;clear H a;rintro L d _ ρ M H a;have H:=un1 H;refine SR<|fV a λN a=>RM<|SQ<|WJ a (λa=>WZ<|SQ<|zJ<|SR<|zC (i6 d)<|bE a λb i a=>?_) λa=>?_;obtain⟨j,k,P,Q,l,n,o,p,q⟩:=yZ (H.im 0 Z) i;obtain⟨e,rfl,s⟩:=xW n;have H:=H.fzs [.at j (k+d.toNat*4) _,.sl eH e b.Series.Samples] ⟨⟨o,p,q⟩,s,T1⟩;refine ix u50 pY l i<|zN (yP (zY (cs:=[sb b.Name,i6 b.Series.Den,e,i6 b.Long]) aIs Z pY Z (H.im 1 Z).2.2) Z)<|xb (yQ aRi H) λ_ T H=>zB (i6 d)<|xu (yD (vs:=[sb b.Name,i6 b.Series.Den,e,i6 b.Long]) H 3 Z pY Z Z Z ⟨Z,Z,(wC (H.im 2 Z)),Z,T1⟩ Z) λU H=>RM<|SQ<|SR<|zN (rG Z)<|Ld eQ H 3 0 Z Z<|bE a λV t a=>RC en28 (Faww t (H.W [] [])) H λX H=>dJ a λY a=>RM<|WJ a (λa=>SR<|zB (i6 8)<|RM ?_) λa=>?_;cases a;exact zI<|zH<|zM<|zH<|zH<|zM<|zH<|p1z ⟨Z,H.U []⟩;refine WZ<|SQ<|SR<|zC c<|zC (i6 d)<|bE a λu v a=>aBg Z Z (nZ u50 pY (H.im 0 Z) Z Z v) ?_;rintro z A;have H:=H.fz (.sl dE z u) A;refine zN (jM Z)<|bE a λ_ B a=>cAz (fH Tryz.func92) (Ffmw B (H.W [3] [4,2])) λ_ C=>?_
 have H:=un5<|H.back [3] [4,2] Z C;refine RM<|WJ a (λa=>SR<|zB (i6 5)<|RM ?_) λa=>?_;cases a;exact zI<|zH<|zM<|zH<|zH<|zM<|zH<|p1z ⟨Z,H.U []⟩;refine WZ<|SQ<|SR<|zN (rX Z)<|zN (yP (zY (cs:=[i6 b.Series.Den,e]) aJq Z aQh Z (Cells.drop (Hbc H 4 Z) 1 2)) Z)<|bE a λf D a=>RC (fH Tryz.func94) (Ffkw D (H.W [] [2])) H λ_ H=>zB (i6 f)<|RM<|SR<|zC (i6 f)<|kT a λ_ a=>RM<|WJ a (λa=>SR<|zC (i6 f)<|zB (i6 f)<|RM ?_) λa=>?_;cases a;exact zI<|zH<|zM<|zH<|zH<|zM<|zH<|p1z ⟨Z,H.U []⟩;refine WZ<|SR<|zN (aUw Z)<|Ld gY H 4 3 Z Z<|bE a λ_ E a=>RC bEo (bCs E (H.W [] [])) H λaf H=>dJ a λ_ a=>RM<|WJ a (λa=>SR<|zB (i6 9)<|RM ?_) λa=>?_;cases a;exact zI<|zM<|zH<|zH<|zM<|zH<|p1z ⟨Z,H.U []⟩;exact yI<|zQ<|zG<|KN<|zF<|fU a λF a=>zC (i6 F)<|jn<|me a () (H.U [0]);exact zZ<|zT<|zT<|zV<|zG<|me a () (H.U []);rintro _ _ ρ _ H a;refine SR<|zB (i6 0)<|RM ?_;cases a;exact zI<|p1z ⟨Z,H.U []⟩
theorem Fd9w {b:Flight}{c:Value}{r:Int}(a:Fd9 b=some r)(H:Hd O w w S [nV c b.Tracks]):
  Rt 27 [.agg [sb b.Tail,sb b.Route,i6 b.Day,i6 b.From,i6 b.To,c].toArray] (i6 r) w O S []:=by
 refine CW 58 Tryz.func27 ?_;refine SR<|xb (yO (cs:=[sb b.Tail,sb b.Route,i6 b.Day,i6 b.From,i6 b.To,c]) Z H) λd F H=>zB (i6 0)<|RM<|SQ<|zJ<|bE a λi a j=>sJ H (rg [3,16]) [(3,vb i)] ?_ ?_;refine zF<|zN (aEh Z)<|Ld eQ H 1 0 Z Z<|RLb a (sG (s1:=b.Tail) (s2:=[]) Z Z) λG a=>bE a λk a l=>xR 6 [7,8,9,10,11,12] [(12,vb k)] (λwl=>Hd O w wl S [nV c b.Tracks,.blk d [sb b.Tail,sb b.Route,i6 b.Day,i6 b.From,i6 b.To,c] 52]) ?_ ?_;refine RJ a (λa=>zN (aEh Z)<|Ld eQ H 1 0 Z Z<|bE a λI n a=>RC en33 (Fbhw n (H.W [] [])) H λJ H=>dJ a λo a=>pt (vb o) ?_) λa=>?_;cases a;exact jn<|meet ⟨(yL Z yT),H.U [0,1]⟩;refine zO<|zO<|zO<|zO<|pf (vb false) ?_;cases a;exact jn<|meet ⟨(yL Z yT),H.U [0,1]⟩;rintro ρ K H;have a:=l;refine RJ a (λa=>zO<|zO<|zO<|zO<|pt (vb true)<|zB (vb true) ?_) λa=>?_;cases a;exact jn<|mt () (H.U [0,1]);refine zN (aUq Z)<|Ld eQ H 1 1 Z Z<|bE a λL p a=>RC en33 (Fbhw p (H.W [] [])) H λM H=>dJ a λe a=>pf (vb e)<|zB (vb e) ?_;cases a;exact jn<|mt () (H.U [0,1]);rintro _ ρ N H;have a:=j;refine WJ a (λa=>SR<|zB (i6 8)<|RM ?_) λa=>?_;cases a;exact zI<|zM<|zH<|p1z ⟨Z,H.U []⟩;refine bE a λq a s=>sJ H (rg [19,22]) [(19,vb q)] ?_ ?_;refine zF<|zN (aCl Z)<|Ld gY H 1 2 Z Z<|bE a λP t a=>RC en14 (Fa1w t (H.W [] [])) H λQ H=>dJ a λ_ a=>bE a λu a v=>xR 5 [24,25,26,27,28] [(28,vb u)] (λwl=>Hd O w wl S [nV c b.Tracks,.blk d [sb b.Tail,sb b.Route,i6 b.Day,i6 b.From,i6 b.To,c] 52]) ?_ ?_
 refine RJ a (λa=>zO<|zO<|zO<|pt (vb true) ?_) λa=>?_;cases a;exact jn<|meet ⟨(yL Z yT),H.U [0,1]⟩;refine zN (aCo Z)<|Ld gY H 1 3 Z Z<|fV a λx a=>pf (vb x) ?_;cases a;exact jn<|meet ⟨(yL Z yT),H.U [0,1]⟩;rintro ρ T H;have a:=v;refine bE a λy a z=>xR 7 [29,30,31,32,33,34,35] [(35,vb y)] (λwl=>Hd O w wl S [nV c b.Tracks,.blk d [sb b.Tail,sb b.Route,i6 b.Day,i6 b.From,i6 b.To,c] 52]) ?_ ?_;refine RJ a (λa=>zO<|zO<|zO<|zO<|zO<|pt (vb true) ?_) λa=>?_;cases a;exact jn<|meet ⟨(yL Z yT),H.U [0,1]⟩;refine zN (aCo Z)<|Ld gY H 1 3 Z Z<|zN (aFd Z)<|Ld gY H 1 4 Z Z<|kJ a λA a=>pf (vb A) ?_;cases a;exact jn<|meet ⟨(yL Z yT),H.U [0,1]⟩;rintro ρ U H;have a:=z;refine RJ a (λa=>zO<|zO<|zO<|pt (vb true)<|zB (vb true) ?_) λa=>?_;cases a;exact jn<|mt () (H.U [0,1]);refine zN (aFd Z)<|Ld gY H 1 4 Z Z<|vX a λf a=>pf (vb f)<|zB (vb f) ?_;cases a;exact jn<|mt () (H.U [0,1]);rintro _ ρ V H;have a:=s;refine WJ a (λa=>SR<|zB (i6 9)<|RM ?_) λa=>?_;cases a;exact zI<|zM<|zH<|p1z ⟨Z,H.U []⟩;refine bE a λB a C=>sJ H (rg [41,14]) [(41,vb B)] ?_ ?_;refine zF<|zN (aFd Z)<|Ld gY H 1 4 Z Z<|zN (aCo Z)<|Ld gY H 1 3 Z Z<|vI a λX a=>fU a λY a=>kJ a λ_ a=>RJ a (λa=>zO<|zO<|zO<|zO<|pt (vb true)<|zB (vb true) ?_) λa=>?_;cases a;exact jn<|mt () (H.U [0,1]);refine zN (nP Z)<|Ld aBc H 1 5 Z Z<|ln a (H.im 0 Z) u50 λ_ a=>kJ a λh a=>pf (vb h)<|zB (vb h) ?_
 cases a;exact jn<|mt () (H.U [0,1]);rintro _ ρ _ H;have a:=C;refine WJ a (λa=>SR<|zB (i6 3)<|RM ?_) λa=>?_;cases a;exact zI<|zM<|zH<|p1z ⟨Z,H.U []⟩;refine yI<|zQ<|zG<|KN<|SR<|zN (nP Z)<|Ld aBc H 1 5 Z Z<|bE a λD E a=>RC (fH Tryz.func53) (Fepw E (H.W [] [0])) H λ_ H=>zB (i6 D)<|RM ?_;cases a;exact zI<|p1z ⟨Z,H.U []⟩
theorem Fcaw {f:List Flight}{c:Value}{r:Int}(a:Fca f=some r)(H:Hd O w w S [f1 sN c f]):
  Rt 11 [c] (i6 r) w O S []:=by
 refine CW 21 Tryz.func11 ?_;refine SR<|zB (i6 0)<|RM<|SQ<|SR<|zC c<|ln a (H.im 0 Z) u22 λv a=>kJ a λz a=>RM<|WJ a (λa=>SR<|zB (i6 3)<|RM ?_) λa=>?_;cases a;exact zI<|zH<|p1z ⟨Z,H.U []⟩;refine WZ<|jk a H (rg [2,1,4,2,9,12]) (λx (y:Unit)=>[]) (λx y=>[]) [] (λA a=>?_) ?_;refine SR<|zC c<|ln a (H.im 0 Z) u22 λB a=>zC (i6 0)<|RM<|zJ<|lo a H (rg [2,1,4,2,11,10]) (λx (y:Unit)=>[(11,i6 x)]) (λx y=>[]) [0] () (H.U [0]) ?_;clear H a;rintro C i _ ρ D H a;have H:=un1 H;refine SR<|fV a λE a=>RM<|SQ<|WJ a (λa=>WZ<|SQ<|zJ<|SR<|bE a λb h a=>?_) λa=>?_;obtain⟨j,k,F,G,l,n,o,p,q⟩:=yZ (H.im 0 Z) h;obtain⟨e,rfl,s⟩:=vV n;have H:=H.fzs [.at j (k+i.toNat*6) _,.sl dE e b.Tracks] ⟨⟨o,p,q⟩,s,T1⟩;refine ix u22 qN l h<|zN (yP (zY (cs:=[sb b.Tail,sb b.Route,i6 b.Day,i6 b.From,i6 b.To,e]) qY Z qN Z (H.im 1 Z).2.2) Z)<|xb (yQ aGs H) λI J H=>xu (yD (vs:=[sb b.Tail,sb b.Route,i6 b.Day,i6 b.From,i6 b.To,e]) H 3 Z qN Z Z Z ⟨Z,Z,Z,Z,Z,(wC (H.im 2 Z)),T1⟩ Z) λK H=>RM<|SR<|lb H 3 Z qY qN<|bE a λd t a=>RC (fH Tryz.func27) (Fd9w t (H.W [] [2])) H λL H=>zB (i6 d)<|RM<|SR<|zC (i6 d)<|kT a λM a=>RM<|WJ a (λa=>SR<|zC (i6 d)<|zB (i6 d)<|RM ?_) λa=>?_;cases a;exact zI<|zM<|zH<|zH<|zM<|zH<|p1z ⟨Z,H.U []⟩;exact yI<|zQ<|zG<|KN<|zF<|fU a λu a=>zC (i6 u)<|jn<|me a () (H.U [0]);exact zZ<|zT<|zT<|zV<|zG<|me a () (H.U [])
 rintro _ _ ρ N H a;refine SR<|zB (i6 0)<|RM ?_;cases a;exact zI<|p1z ⟨Z,H.U []⟩
theorem Faiw {e:List Str}{c:Str}{d:Value}{r:Int}(a:Fai e c=some r)(H:Hd O w w S [fZ d e]):
  Rt 57 [d,sb c] (i6 r) w O S []:=by
 refine CW 19 Tryz.func57 ?_;refine SR<|zB (i6 0)<|RM<|jk a H (rg [4,15]) (λx (y:Unit)=>[]) (λx y=>[]) [] (λj a=>?_) ?_;refine SR<|zC d<|ln a (H.im 0 Z) u23 λk a=>zC (i6 0)<|RM<|zJ<|lo a H (rg [4,2,8,11]) (λx (y:Unit)=>[(8,i6 x)]) (λx y=>[]) [0] () (H.U [0]) ?_;clear H a;rintro l b _ ρ n H a;have H:=un1 H;refine SR<|fV a λo a=>RM<|SQ<|WJ a (λa=>WZ<|SQ<|zJ<|SR<|zC (i6 b)<|zB (i6 b)<|RM<|SR<|zC (sb c)<|zC d<|zC (i6 b)<|bE a λf h a=>rea H (H.im 0 Z) (sb f) h u23 sz9 eQ λp q H=>RLb a (wF (s1:=c) (s2:=f) Z Z) λs a=>RM<|WJ a (λa=>SR<|zC (i6 b)<|zB (i6 b)<|RM ?_) λa=>?_) λa=>?_;cases a;exact zI<|zM<|zH<|zH<|zM<|zH<|p1z ⟨Z,H.U []⟩;exact yI<|zQ<|zG<|KN<|zF<|fU a λi a=>zC (i6 i)<|jn<|me a () (H.U [0]);exact zZ<|zT<|zT<|zV<|zG<|me a () (H.U []);rintro _ _ ρ t H a;refine SR<|zB (i6 (-1))<|RM ?_;cases a;exact zI<|p1z ⟨Z,H.U []⟩
theorem Fauw {d:List Str}{b:Str}{c:Value}{r:Bool}(a:Fau d b=some r)(H:Hd O w w S [fZ c d]):
  Rt 29 [c,sb b] (vb r) w O S []:=by
 refine CW 9 Tryz.func29 ?_;refine SR<|zB (vb false)<|RM<|SR<|zC c<|zC (sb b)<|bE a λh e a=>RC en57 (Faiw e (H.W [] [0])) H λi H=>vX a λf a=>zB (vb f)<|RM ?_;cases a;exact zI<|p1z ⟨Z,H.U []⟩
abbrev Fgk (f:Cond->Int->Int->Option (Bool×Int)):Prop:= ∀(p0:Cond) (p1:Int) (p2:Int) (v1:Value) (b3:Nat) (r:Bool×Int) (_:f p0 p1 p2=some r) (O S:List Nat) (w:World) (_:Hd O w w S [.blk b3 [i6 p2] 3,dL v1 p0.Kids]),
  Cl 95 [.agg [i6 p0.Kind,sb p0.Name,sb p0.Other,i6 p0.Op,i6 p0.N,i6 p0.Frames,v1].toArray,i6 p1,gX b3] w λe w'=>e= .returned (vb r.1)/\Hd O w w' S [.blk b3 [i6 r.2] 3]
theorem Fdkw (rfA:Cond->Int->Int->Option (Bool×Int))(rhA:Fgk rfA)(b:Cond)(f j:Int)(i:Value)(d:Nat)(r:Bool×Int)(a:Fdk rfA b f j=some r)(O S:List Nat)(w:World)(H:Hd O w w S [.blk d [i6 j] 3,dL i b.Kids]):
  Cl 95 [.agg [i6 b.Kind,sb b.Name,sb b.Other,i6 b.Op,i6 b.N,i6 b.Frames,i].toArray,i6 f,gX d] w λe l=>e= .returned (vb r.1)/\Hd O w l S [.blk d [i6 r.2] 3]:=by
 unfold Fdk at a;refine CW 36 Tryz.func95 ?_;refine SR<|xb (yO (cs:=[i6 b.Kind,sb b.Name,sb b.Other,i6 b.Op,i6 b.N,i6 b.Frames,i]) Z H) λL M H=>zB (vb false)<|RM<|SR<|zC (gX d)<|zN (kH Z)<|Ld gY H 0 0 Z Z<|fU a λn a=>zN (kH Z)<|xu (yU H 0 Z sz3 Z (v:=i6 n) Z Z Z) λP H=>RM<|SQ<|bE a λo a p=>sJ H (rg [14,8]) [(21,vb o)] ?_ ?_;refine zF<|zC (i6 f)<|fO a λQ a=>RJ a (λa=>zO<|zO<|zO<|zO<|pt (vb true) ?_) λa=>?_;cases a;exact jn<|mt () (H.U [0,1,2]);refine zC (gX d)<|zN (kH Z)<|Ld gY H 0 0 Z Z<|kJ a λq a=>pf (vb q) ?_;cases a;exact jn<|mt () (H.U [0,1,2]);rintro _ ρ _ H;have a:=p;refine WJ a (λa=>SR<|zB (vb false)<|RM ?_) λa=>?_;cases a;exact zI<|zH<|p1z ⟨Z,H.U [0]⟩;refine WZ<|jk a H (rg [6,1,8,1,22,14]) (λx (y:Unit)=>[]) (λx y=>[.blk d [i6 x] 3]) [0] (λT a=>?_) ?_;refine SR<|zN (kP Z)<|Ld pF H 2 6 Z Z<|ln a (H.im 1 Z) u69 λU a=>zC (i6 0)<|RM<|zJ ?_;unfold Fhg at a;refine lo a H (rg [6,1,8,1,25,11]) (λx (y:Unit)=>[(25,i6 x.1)]) (λx y=>[.blk d [i6 x.2] 3]) [0,2] () (H.U [0,1]) ?_;clear H a;rintro V ⟨s,t⟩ _ ρ X H a;have H:=un2 H;refine SR<|fV a λY a=>RM<|SQ<|WJ a (λa=>WZ<|SQ<|zJ<|SR<|bE a λc k a=>?_) λa=>?_;obtain⟨u,z,_,_,A,B,C,D,E⟩:=yZ (H.im 1 Z) k;obtain⟨h,rfl,F⟩:=dQ B;have H:=H.fzs [.at u (z+s.toNat*7) _,.sl dU h c.Kids] ⟨⟨C,D,E⟩,F,T1⟩;refine ix u69 dO A k<|zN (yP (zY (cs:=[i6 c.Kind,sb c.Name,sb c.Other,i6 c.Op,i6 c.N,i6 c.Frames,h]) dF Z dO Z (H.im 2 Z).2.2) Z)<|xb (yQ aHb H) λ_ _ H=>xu (yD (vs:=[i6 c.Kind,sb c.Name,sb c.Other,i6 c.Op,i6 c.N,i6 c.Frames,h]) H 4 Z dO Z Z Z ⟨Z,Z,Z,Z,Z,Z,(wC (H.im 3 Z)),T1⟩ Z) λ_ H=>RM<|SR<|lb H 4 Z dF dO<|zC (i6 f)<|vI a λG a=>zC (gX d) ?_
 obtain⟨⟨af,_⟩,I,a⟩:=yN a;refine cAz en95 (rhA c G t h d _ I _ _ _ (H.W [0] [3])) λ_ J=>?_;have H:=un5<|H.back [0] [3] Z J;refine dJ a λ_ a=>RM<|WJ a (λa=>SR<|zB (vb false)<|RM ?_) λa=>?_;cases a;exact zI<|zM<|zH<|zH<|zM<|zH<|p1z ⟨Z,H.U [4]⟩;exact yI<|zQ<|zG<|KN<|zF<|fU a λK a=>zC (i6 K)<|jn<|me a () (H.U [4,0]);exact zZ<|zT<|zT<|zV<|zG<|me a () (H.U [0]);rintro _ _ ρ _ H a;have H:=un1 H;refine SR<|zB (vb true)<|RM ?_;cases a;exact zI<|p1z ⟨Z,H.U [0]⟩
theorem Fjk:Fgk (Ffd):=by
 have h: ∀n,Fgk (Fay n):=by
  intro n
  induction n with
  |zero=>intro b c d e f r a;cases a
  |succ n ih=>intro b c d e f r a;exact Fdkw (Fay n) ih b c d e f r a
 exact h FU
theorem Fafw {b:Int}{r:bD×Bool}(a:Faf b=some r)(H:Hd O w w S []):
  Rt 120 [i6 b] (.tuple #[.agg [vb r.1.name,vb r.1.other,vb r.1.op,vb r.1.n,vb r.1.frames,i6 r.1.least,i6 r.1.most].toArray,vb r.2]) w O S []:=by
 refine CW 41 Tryz.func120 ?_;refine SR<|xb (yQ bEz H) λG I H=>zB (vb false)<|RM<|SQ<|SR<|zC (i6 b)<|RM<|zJ<|bE a λc a d=>sJ H [5,6,7] [(5,vb c)] ?_ ?_;refine SR<|fO a λe a=>zB (vb e)<|RM<|WJ a ?_ ?_<;>intro a;cases a;exact js<|mt () (H.U [0]);refine zF<|fO a λf a=>zB (vb f) ?_;cases a;exact jn<|mt () (H.U [0]);rintro _ ρ J H;have a:=d;refine WJ a (λa=>SR<|zN (yV (cs:=[vb false,vb false,vb false,vb false,vb false,i6 0,i6 0]) bz175)<|xu (yD (vs:=[vb false,vb false,vb false,vb false,vb false,i6 0,i6 0]) H 0 Z nS Z Z Z ⟨Z,Z,Z,Z,Z,Z,Z,T1⟩ Z) λK H=>zB (vb true)<|RM ?_) λa=>?_;cases a;exact zI<|zM<|zH<|jS (v1:=vb true) Z Z (xA wP nS Z (Hbc H 0 Z)) Z ⟨Z,H.U []⟩;refine SR<|fO a λh a=>zB (vb h)<|RM<|WJ a (λa=>SR<|zN (yV (cs:=[vb true,vb false,vb true,vb true,vb false,i6 0,i6 0]) (aZb _ _ _))<|xu (yD (vs:=[vb true,vb false,vb true,vb true,vb false,i6 0,i6 0]) H 0 Z nS Z Z Z ⟨Z,Z,Z,Z,Z,Z,Z,T1⟩ Z) λL H=>zB (vb true)<|RM ?_) λa=>?_;cases a;exact zI<|zM<|zH<|jS (v1:=vb true) Z Z (xA wP nS Z (Hbc H 0 Z)) Z ⟨Z,H.U []⟩;refine SR<|fO a λi a=>zB (vb i)<|RM<|WJ a (λa=>SR<|zN (yV (cs:=[vb true,vb true,vb true,vb false,vb false,i6 0,i6 0]) (aYa _ _ _))<|xu (yD (vs:=[vb true,vb true,vb true,vb false,vb false,i6 0,i6 0]) H 0 Z nS Z Z Z ⟨Z,Z,Z,Z,Z,Z,Z,T1⟩ Z) λM H=>zB (vb true)<|RM ?_) λa=>?_
 cases a;exact zI<|zM<|zH<|jS (v1:=vb true) Z Z (xA wP nS Z (Hbc H 0 Z)) Z ⟨Z,H.U []⟩;refine SR<|fO a λj a=>zB (vb j)<|RM<|WJ a (λa=>SR<|zN (yV (cs:=[vb true,vb false,vb false,vb true,vb true,i6 0,i6 0]) (aZj _ _ _))<|xu (yD (vs:=[vb true,vb false,vb false,vb true,vb true,i6 0,i6 0]) H 0 Z nS Z Z Z ⟨Z,Z,Z,Z,Z,Z,Z,T1⟩ Z) λN H=>zB (vb true)<|RM ?_) λa=>?_;cases a;exact zI<|zM<|zH<|jS (v1:=vb true) Z Z (xA wP nS Z (Hbc H 0 Z)) Z ⟨Z,H.U []⟩;refine bE a λk a l=>sJ H [18,19,20] [(18,vb k)] ?_ ?_;refine SR<|fO a λo a=>zB (vb o)<|RM<|WJ a ?_ ?_<;>intro a;cases a;exact js<|mt () (H.U [0]);refine zF<|fO a λp a=>zB (vb p) ?_;cases a;exact jn<|mt () (H.U [0]);rintro _ ρ P H;have a:=l;refine WJ a (λa=>SR<|zN (yV (cs:=[vb true,vb false,vb false,vb false,vb false,i6 0,i6 0]) (bt175_0 _))<|xu (yD (vs:=[vb true,vb false,vb false,vb false,vb false,i6 0,i6 0]) H 0 Z nS Z Z Z ⟨Z,Z,Z,Z,Z,Z,Z,T1⟩ Z) λQ H=>zB (vb true)<|RM ?_) λa=>?_;cases a;exact zI<|zM<|zH<|jS (v1:=vb true) Z Z (xA wP nS Z (Hbc H 0 Z)) Z ⟨Z,H.U []⟩;refine bE a λq a s=>sJ H [22,23,24] [(22,vb q)] ?_ ?_;refine SR<|fO a λt a=>zB (vb t)<|RM<|WJ a ?_ ?_<;>intro a;cases a;exact js<|mt () (H.U [0]);refine zF<|fO a λu a=>zB (vb u) ?_;cases a;exact jn<|mt () (H.U [0]);rintro _ ρ _ H;have a:=s;refine WJ a (λa=>SR<|zN (yV (cs:=[vb false,vb false,vb false,vb false,vb false,i6 1,i6 1]) (aLa _ _))<|xu (yD (vs:=[vb false,vb false,vb false,vb false,vb false,i6 1,i6 1]) H 0 Z nS Z Z Z ⟨Z,Z,Z,Z,Z,Z,Z,T1⟩ Z) λT H=>zB (vb true)<|RM ?_) λa=>?_
 cases a;exact zI<|zM<|zH<|jS (v1:=vb true) Z Z (xA wP nS Z (Hbc H 0 Z)) Z ⟨Z,H.U []⟩;refine bE a λv a x=>sJ H [26,27,28] [(26,vb v)] ?_ ?_;refine SR<|fO a λy a=>zB (vb y)<|RM<|WJ a ?_ ?_<;>intro a;cases a;exact js<|mt () (H.U [0]);refine zF<|fO a λz a=>zB (vb z) ?_;cases a;exact jn<|mt () (H.U [0]);rintro _ ρ U H;have a:=x;refine WJ a (λa=>SR<|zN (yV (cs:=[vb false,vb false,vb false,vb false,vb false,i6 2,i6 200]) (aLa _ _))<|xu (yD (vs:=[vb false,vb false,vb false,vb false,vb false,i6 2,i6 200]) H 0 Z nS Z Z Z ⟨Z,Z,Z,Z,Z,Z,Z,T1⟩ Z) λV H=>zB (vb true)<|RM ?_) λa=>?_;cases a;exact zI<|zM<|zH<|jS (v1:=vb true) Z Z (xA wP nS Z (Hbc H 0 Z)) Z ⟨Z,H.U []⟩;refine bE a λA a B=>sJ H [30,31,32] [(30,vb A)] ?_ ?_;refine SR<|fO a λC a=>zB (vb C)<|RM<|WJ a ?_ ?_<;>intro a;cases a;exact js<|mt () (H.U [0]);refine zF<|fO a λD a=>zB (vb D) ?_;cases a;exact jn<|mt () (H.U [0]);rintro _ ρ X H;have a:=B;refine WJ a (λa=>SR<|zN (yV (cs:=[vb false,vb false,vb false,vb false,vb true,i6 1,i6 1]) (bBj _ _ _))<|xu (yD (vs:=[vb false,vb false,vb false,vb false,vb true,i6 1,i6 1]) H 0 Z nS Z Z Z ⟨Z,Z,Z,Z,Z,Z,Z,T1⟩ Z) λY H=>zB (vb true)<|RM ?_) λa=>?_;cases a;exact zI<|zM<|zH<|jS (v1:=vb true) Z Z (xA wP nS Z (Hbc H 0 Z)) Z ⟨Z,H.U []⟩;refine SR<|fO a λE a=>zB (vb E)<|RM<|WJ a ?_ ?_<;>intro a
 refine SR<|zN (yV (cs:=[vb false,vb false,vb false,vb true,vb true,i6 1,i6 1]) (aSa _ _ _ _))<|xu (yD (vs:=[vb false,vb false,vb false,vb true,vb true,i6 1,i6 1]) H 0 Z nS Z Z Z ⟨Z,Z,Z,Z,Z,Z,Z,T1⟩ Z) λ_ H=>zB (vb true)<|RM ?_;cases a;exact zI<|zM<|zH<|jS (v1:=vb true) Z Z (xA wP nS Z (Hbc H 0 Z)) Z ⟨Z,H.U []⟩;refine SR<|fO a λF a=>zB (vb F)<|RM<|WJ a (λa=>SR<|zN (yV (cs:=[vb false,vb false,vb false,vb false,vb false,i6 2,i6 2]) (aLa _ _))<|xu (yD (vs:=[vb false,vb false,vb false,vb false,vb false,i6 2,i6 2]) H 0 Z nS Z Z Z ⟨Z,Z,Z,Z,Z,Z,Z,T1⟩ Z) λ_ H=>zB (vb true)<|RM ?_) λa=>?_;cases a;exact zI<|zM<|zH<|jS (v1:=vb true) Z Z (xA wP nS Z (Hbc H 0 Z)) Z ⟨Z,H.U []⟩;refine yI<|zQ<|zG<|KN<|SR<|zN (yV (cs:=[vb false,vb false,vb false,vb false,vb false,i6 0,i6 0]) bz175)<|xu (yD (vs:=[vb false,vb false,vb false,vb false,vb false,i6 0,i6 0]) H 0 Z nS Z Z Z ⟨Z,Z,Z,Z,Z,Z,Z,T1⟩ Z) λ_ H=>zB (vb false)<|RM ?_;cases a;exact zI<|jS (v1:=vb false) Z Z (xA wP nS Z (Hbc H 0 Z)) Z ⟨Z,H.U []⟩
end Go.Proofs.YtibkjjklfhfipacGreatDoor.L
