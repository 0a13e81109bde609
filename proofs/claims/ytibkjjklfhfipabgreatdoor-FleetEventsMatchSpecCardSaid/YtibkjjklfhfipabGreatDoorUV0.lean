/- Walks that the claim stands on; no condition beyond those stated. -/
import Derived.Test.YtibkjjklfhfipabGreatDoorUP
import Derived.Test.YtibkjjklfhfipabGreatDoorXVq
import Derived.Test.YtibkjjklfhfipabGreatDoorXVr
namespace Go.Proofs.YtibkjjklfhfipabGreatDoor.L
open Go.RowKit Go.OB Go.Lf
set_option maxRecDepth 100000
set_option maxHeartbeats 4000000
abbrev vb:=Value.bool
theorem T1:True:=trivial
abbrev cE (c:Cond):Cond:=Cond.mk c.Kind c.Name c.Other c.Op c.N c.Frames c.Kids
theorem Z {α:Sort _}{a:α}:a=a:=rfl
variable {O S:List Nat}{w:World}
abbrev En (f:FuncId):Prop:=Go.OB.Enters Tryz.prog f
theorem CW {P:Program}{f:FuncId}{fn:Func}{c:Code}{args:List Value}{w:World}{R:Ending->World->Prop}(N:Nat)(hf:P.funcs[f]? =some fn)(h:WP P N c (aDd P fn.results R) (aUj args) w)(hb:fn.body=some c:=by exact rfl)(hN:fn.ntmps=N:=by exact rfl)(hl:Nat.ble args.length N=true:=by exact rfl):Calls P f args.toArray w R:=sK N hf hb hN hl h
theorem mt {W:List Nat}{ρ ρ':Env}{G:Type}{S:G->List (Nat×Value)}{B:G->Prop}(g:G)(h:B g)(hs:Sl ρ' (S g):=by repeat (first |exact yR|refine yC rfl ?_))(hf:Fr W ρ ρ':=by repeat' (first |with_reducible exact aEh|refine aQq rfl ?_|refine aJf rfl rfl ?_)):Fr W ρ ρ'/\ ∃g,Sl ρ' (S g)/\B g:=⟨hf,g,hs,h⟩
theorem ml {W:List Nat}{ρ ρ':Env}{G:Type}{S:G->List (Nat×Value)}{B C:G->Prop}{μ:G->Nat}{n:Nat}(g:G)(h:B g)(c:C g)(hs:Sl ρ' (S g):=by repeat (first |exact yR|refine yC rfl ?_))(hn:μ g<n:=by exact Nat.lt_succ_self _)(hf:Fr W ρ ρ':=by repeat' (first |with_reducible exact aEh|refine aQq rfl ?_|refine aJf rfl rfl ?_)):Fr W ρ ρ'/\ ∃g,Sl ρ' (S g)/\(B g/\C g)/\μ g<n:=⟨hf,g,hs,⟨h,c⟩,hn⟩
def rg:List Nat->List Nat
 |a::n::l=>List.range' a n++rg l
 |_=>[]
section
variable {P:Program}{N:Nat}{ops:Array Oper}{Q Q':Exit->Env->World->Prop}{rest:List Oper}{ρ:Env}{w:World}{d:Nat}{op:Op}{ty:TypeId}{pos:String}{af:Array Edge}{gd:Option (Nat×Bool)}
theorem RLb {β:Type}{b:Bool}{k:Bool->Option β}{r:β}(a:gJ b k=some r)(hd:Do P ⟨some d,op,ty,pos,af,gd⟩ ρ w (vb b) w)(n: ∀x,k x=some r->RL P N ops Q rest (upd ρ d (vb x)) w)(hw:fU N ops ρ ⟨some d,op,ty,pos,af,gd⟩=true:=by exact rfl)(c:Nat.blt d N=true:=by exact rfl):RL P N ops Q (⟨some d,op,ty,pos,af,gd⟩::rest) ρ w:=aF hw c hd (n b a)
theorem RLi {β:Type}{b:Int}{kk:IntKind}{k:Int->Option β}{r:β}(a:gJ b k=some r)(hd:Do P ⟨some d,op,ty,pos,af,gd⟩ ρ w (.int kk b) w)(n: ∀x,k x=some r->RL P N ops Q rest (upd ρ d (.int kk x)) w)(hw:fU N ops ρ ⟨some d,op,ty,pos,af,gd⟩=true:=by exact rfl)(c:Nat.blt d N=true:=by exact rfl):RL P N ops Q (⟨some d,op,ty,pos,af,gd⟩::rest) ρ w:=aF hw c hd (n b a)
theorem WI {β:Type}{b:Bool}{x y:Option β}{r:β}{c:Operand}{s t:Code}(a:gQ b x y=some r)(hc:ev ρ c=vb b)(ht:x=some r->WP P N s Q ρ w)(hf:y=some r->WP P N t Q ρ w):WP P N (.cond c s t) Q ρ w:=aQi hc (λc=>ht (uT c a)) (λc=>hf (uZ c a))
theorem RI {β:Type}{b:Bool}{x y:Option β}{r:β}{z:Operand}(a:gQ b x y=some r)(hx:ev ρ z=vb b)(ht:x=some r->RL P N ops Q rest (upd ρ d (vb true)) w)(hf:y=some r->RL P N ops Q rest (upd ρ d (vb false)) w)(hw:fU N ops ρ ⟨some d,.move z,ty,pos,af,gd⟩=true:=by exact rfl)(e:Nat.blt d N=true:=by exact rfl):RL P N ops Q (⟨some d,.move z,ty,pos,af,gd⟩::rest) ρ w:=RL_splitb hw e hx (λc=>ht (uT c a)) (λc=>hf (uZ c a))
theorem RC {f:FuncId}{args:Array Operand}{at_:Array TypeId}{vs:List Value}{v:Value}{O c S:List Nat}{b:World}{l:List Th}(he:Go.OB.Enters P f)(hc:Calls P f vs.toArray w λe a=>e= .returned v/\Hd c w a [] [])(H:Hd O b w S l)(k: ∀a,Hd O b a S l->RL P N ops Q rest (upd ρ d v) a)(ha:args.toList.map (ev ρ)=vs:=by exact rfl)(hw:fU N ops ρ ⟨some d,.call {callee:= .value (.func f),args:=args,argTypes:=at_},ty,pos,af,gd⟩=true:=by exact rfl)(h:Nat.blt d N=true:=by exact rfl):RL P N ops Q (⟨some d,.call {callee:= .value (.func f),args:=args,argTypes:=at_},ty,pos,af,gd⟩::rest) ρ w:=by
 refine xE hw h (yA he ha) hc ?_;rintro _ a ⟨rfl,G⟩;exact⟨_,rfl,k _ (H.step G.only)⟩
end
section
variable {P:Program}{N:Nat}{ops:Array Oper}{Q Q':Exit->Env->World->Prop}{rest:List Oper}{ρ:Env}{w:World}{d:Nat}{t u ty:TypeId}{x y:Operand}{pos:String}{af:Array Edge}{g:Option (Nat×Bool)}
def KK (P:Program)(N:Nat)(y:Code)(Q:Exit->Env->World->Prop):Env->World->Prop:=WP P N y Q
theorem SQ {x y:Code}(h:WP P N x (nS (KK P N y Q) Q) ρ w):WP P N (.seq x y) Q ρ w:=aYr h λ_ _ h=>h
theorem SR {id:Nat}{l:List Oper}{y:Code}(h:RL P N l.toArray (nS (KK P N y Q) Q) l ρ w):WP P N (.seq (.region id l.toArray false) y) Q ρ w:=SQ (zD h)
theorem RM {y:Code}(n:WP P N y Q ρ w):RL P N ops (nS (KK P N y Q) Q') [] ρ w:=yN (zF n)
theorem WZ {y:Code}(n:WP P N y Q ρ w):WP P N .skip (nS (KK P N y Q) Q') ρ w:=yK (zF n)
theorem KN {y:Code}(n:WP P N y Q ρ w):KK P N y Q ρ w:=n
theorem jn {K:Env->World->Prop}(n:K ρ w):RL P N ops (nS K Q') [] ρ w:=yN (zF n)
theorem js {K:Env->World->Prop}(n:K ρ w):WP P N .skip (nS K Q') ρ w:=yK (zF n)
theorem eF {a b:Int}{kk:IntKind}{β:Type}{k:Bool->Option β}{r:β}(c:gJ (decide (a<b)) k=some r)(n: ∀x,k x=some r->RL P N ops Q rest (upd ρ d (vb x)) w)(hx:ev ρ x= .int kk a:=by exact rfl)(hy:ev ρ y= .int kk b:=by exact rfl)(hw:fU N ops ρ ⟨some d,.binOp .lss t x y u,ty,pos,af,g⟩=true:=by exact rfl)(e:Nat.blt d N=true:=by exact rfl):RL P N ops Q (⟨some d,.binOp .lss t x y u,ty,pos,af,g⟩::rest) ρ w:=RLb c (Do_lss hx hy) n hw e
theorem aBc {a b:Int}{kk:IntKind}{β:Type}{k:Bool->Option β}{r:β}(c:gJ (decide (a<=b)) k=some r)(n: ∀x,k x=some r->RL P N ops Q rest (upd ρ d (vb x)) w)(hx:ev ρ x= .int kk a:=by exact rfl)(hy:ev ρ y= .int kk b:=by exact rfl)(hw:fU N ops ρ ⟨some d,.binOp .leq t x y u,ty,pos,af,g⟩=true:=by exact rfl)(e:Nat.blt d N=true:=by exact rfl):RL P N ops Q (⟨some d,.binOp .leq t x y u,ty,pos,af,g⟩::rest) ρ w:=RLb c (aQt hx hy) n hw e
theorem kW {a b:Int}{kk:IntKind}{β:Type}{k:Bool->Option β}{r:β}(c:gJ (decide (b<a)) k=some r)(n: ∀x,k x=some r->RL P N ops Q rest (upd ρ d (vb x)) w)(hx:ev ρ x= .int kk a:=by exact rfl)(hy:ev ρ y= .int kk b:=by exact rfl)(hw:fU N ops ρ ⟨some d,.binOp .gtr t x y u,ty,pos,af,g⟩=true:=by exact rfl)(e:Nat.blt d N=true:=by exact rfl):RL P N ops Q (⟨some d,.binOp .gtr t x y u,ty,pos,af,g⟩::rest) ρ w:=RLb c (vG hx hy) n hw e
theorem wK {a b:Int}{kk:IntKind}{β:Type}{k:Bool->Option β}{r:β}(c:gJ (decide (b<=a)) k=some r)(n: ∀x,k x=some r->RL P N ops Q rest (upd ρ d (vb x)) w)(hx:ev ρ x= .int kk a:=by exact rfl)(hy:ev ρ y= .int kk b:=by exact rfl)(hw:fU N ops ρ ⟨some d,.binOp .geq t x y u,ty,pos,af,g⟩=true:=by exact rfl)(e:Nat.blt d N=true:=by exact rfl):RL P N ops Q (⟨some d,.binOp .geq t x y u,ty,pos,af,g⟩::rest) ρ w:=RLb c (aGw hx hy) n hw e
theorem fG {a b:Int}{kk:IntKind}{β:Type}{k:Bool->Option β}{r:β}(c:gJ (decide (a=b)) k=some r)(n: ∀x,k x=some r->RL P N ops Q rest (upd ρ d (vb x)) w)(hx:ev ρ x= .int kk a:=by exact rfl)(hy:ev ρ y= .int kk b:=by exact rfl)(hw:fU N ops ρ ⟨some d,.binOp .eql t x y u,ty,pos,af,g⟩=true:=by exact rfl)(e:Nat.blt d N=true:=by exact rfl):RL P N ops Q (⟨some d,.binOp .eql t x y u,ty,pos,af,g⟩::rest) ρ w:=RLb c (aGq hx hy) n hw e
theorem kF {a b:Int}{kk:IntKind}{β:Type}{k:Bool->Option β}{r:β}(c:gJ (decide (a≠b)) k=some r)(n: ∀x,k x=some r->RL P N ops Q rest (upd ρ d (vb x)) w)(hx:ev ρ x= .int kk a:=by exact rfl)(hy:ev ρ y= .int kk b:=by exact rfl)(hw:fU N ops ρ ⟨some d,.binOp .neq t x y u,ty,pos,af,g⟩=true:=by exact rfl)(e:Nat.blt d N=true:=by exact rfl):RL P N ops Q (⟨some d,.binOp .neq t x y u,ty,pos,af,g⟩::rest) ρ w:=RLb c (Do_neq hx hy) n hw e
theorem fZ {a b:Int}{kk:IntKind}{β:Type}{k:Int->Option β}{r:β}(c:gJ (kk.wrap (a+b)) k=some r)(n: ∀x,k x=some r->RL P N ops Q rest (upd ρ d (.int kk x)) w)(hx:ev ρ x= .int kk a:=by exact rfl)(hy:ev ρ y= .int kk b:=by exact rfl)(hw:fU N ops ρ ⟨some d,.binOp .add t x y u,ty,pos,af,g⟩=true:=by exact rfl)(e:Nat.blt d N=true:=by exact rfl):RL P N ops Q (⟨some d,.binOp .add t x y u,ty,pos,af,g⟩::rest) ρ w:=RLi c (aAl hx hy rfl) n hw e
theorem vI {a b:Int}{kk:IntKind}{β:Type}{k:Int->Option β}{r:β}(c:gJ (kk.wrap (a-b)) k=some r)(n: ∀x,k x=some r->RL P N ops Q rest (upd ρ d (.int kk x)) w)(hx:ev ρ x= .int kk a:=by exact rfl)(hy:ev ρ y= .int kk b:=by exact rfl)(hw:fU N ops ρ ⟨some d,.binOp .sub t x y u,ty,pos,af,g⟩=true:=by exact rfl)(e:Nat.blt d N=true:=by exact rfl):RL P N ops Q (⟨some d,.binOp .sub t x y u,ty,pos,af,g⟩::rest) ρ w:=RLi c (mW hx hy rfl) n hw e
theorem aPn {a b:Int}{kk:IntKind}{β:Type}{k:Int->Option β}{r:β}(c:gJ (kk.wrap (a*b)) k=some r)(n: ∀x,k x=some r->RL P N ops Q rest (upd ρ d (.int kk x)) w)(hx:ev ρ x= .int kk a:=by exact rfl)(hy:ev ρ y= .int kk b:=by exact rfl)(hw:fU N ops ρ ⟨some d,.binOp .mul t x y u,ty,pos,af,g⟩=true:=by exact rfl)(e:Nat.blt d N=true:=by exact rfl):RL P N ops Q (⟨some d,.binOp .mul t x y u,ty,pos,af,g⟩::rest) ρ w:=RLi c (aXu hx hy rfl) n hw e
theorem sJ {x y:Code}{O S:List Nat}{a b:World}{T:List Th}(_:Hd O a b S T)(W:List Nat)(l:List (Nat×Value))(h:WP P N x (nS (λρ' c=>Fr W ρ ρ'/\ ∃g:Unit,Sl ρ' ((λ_=>l) g)/\(λ_ wl=>Hd O a wl S T) g c) Q) ρ w)(k: ∀(_:Unit) ρ₁ w,Hd O a w S T->WP P N y Q (over ρ ρ₁ W l) w):WP P N (.seq x y) Q ρ w:=aQw W (λ_:Unit=>l) (λ_ wl=>Hd O a wl S T) h k
theorem bE {α β:Type}{p:Prop}{x:Option α}{f:α->Option β}{r:β}(h:gB x f=some r)(k: ∀y,x=some y->f y=some r->p):p:=(yL h).elim λy q=>k y q.1 q.2
theorem lE {α β:Type}{p:Prop}{x:α}{f:α->Option β}{r:β}(h:gJ x f=some r)(k: ∀y,x=y->f y=some r->p):p:=(aCu h).elim λy q=>k y q.1 q.2
theorem XQ {I:World->Prop}{κ:List MxM.Kd}{K:MxM.Mm->Env->World->Prop}{k:Nat}{M:MxM.Mm}{σ:List Nat}{v:Value}{op:Op}(h: ∀{a},Do P ⟨some d,op,ty,pos,af,g⟩ ρ a v a)(n:MxM.XL P I N ops κ K M σ rest (upd ρ d v) w)(hk:MxM.kdOf κ k= .pure:=by exact rfl)(hw:fU N ops ρ ⟨some d,op,ty,pos,af,g⟩=true:=by exact rfl)(b:Nat.blt d N=true:=by exact rfl):MxM.XL P I N ops κ K M (k::σ) (⟨some d,op,ty,pos,af,g⟩::rest) ρ w:=MxM.XL_pure hk hw b (λ_ _=>h) n
theorem bC {b:Bool}{β:Type}{k:Bool->Option β}{r:β}(a:gJ (!b) k=some r)(n: ∀x,k x=some r->RL P N ops Q rest (upd ρ d (vb x)) w)(hx:ev ρ x=vb b:=by exact rfl)(hw:fU N ops ρ ⟨some d,.unOp .not t x,ty,pos,af,g⟩=true:=by exact rfl)(c:Nat.blt d N=true:=by exact rfl):RL P N ops Q (⟨some d,.unOp .not t x,ty,pos,af,g⟩::rest) ρ w:=RLb a (aDo hx) n hw c
theorem pt (v:Value){z:Operand}(n:RL P N ops Q rest (upd ρ d v) w)(hx:ev ρ x=vb true:=by exact rfl)(hy:ev ρ y=v:=by exact rfl)(hw:fU N ops ρ ⟨some d,.pick x y z,ty,pos,af,g⟩=true:=by exact rfl)(a:Nat.blt d N=true:=by exact rfl):RL P N ops Q (⟨some d,.pick x y z,ty,pos,af,g⟩::rest) ρ w:=aF hw a (jK hx hy) n
theorem pf (v:Value){z:Operand}(n:RL P N ops Q rest (upd ρ d v) w)(hx:ev ρ x=vb false:=by exact rfl)(hz:ev ρ z=v:=by exact rfl)(hw:fU N ops ρ ⟨some d,.pick x y z,ty,pos,af,g⟩=true:=by exact rfl)(a:Nat.blt d N=true:=by exact rfl):RL P N ops Q (⟨some d,.pick x y z,ty,pos,af,g⟩::rest) ρ w:=aF hw a (jJ hx hz) n
theorem ix {α:Type}{L:List α}{i:Int}{z:α}{e:TypeId}{b o s c:Nat}{kk:IntKind}(hu:P.underlying t=some (.slice e))(hs:Sz P e s)(hx:ev ρ x= .slice (some ⟨b,o,none⟩) L.length c)(h:at' L i=some z)(n:RL P N ops Q rest (upd ρ d (.pointer (some ⟨b,o+i.toNat*s,none⟩))) w)(hy:ev ρ y= .int kk i:=by exact rfl)(hw:fU N ops ρ ⟨some d,.indexAddr t x y,ty,pos,af,g⟩=true:=by exact rfl)(a:Nat.blt d N=true:=by exact rfl):RL P N ops Q (⟨some d,.indexAddr t x y,ty,pos,af,g⟩::rest) ρ w:=aF hw a (yV hu hs hx hy (zU h).1 (zU h).2.1 rfl rfl) n
theorem lb {O S:List Nat}{a:World}{l:List Th}{b T n:Nat}{cs:List Value}(H:Hd O a w S l)(i:Nat)(h:l[i]? =some (.blk b cs T))(c:Agg P t)(hs:Sz P t n)(k:RL P N ops Q rest (upd ρ d (.agg cs.toArray)) w)(hx:ev ρ x= .pointer (some ⟨b,0,none⟩):=by exact rfl)(hl:cs.length=n:=by exact rfl)(hw:fU N ops ρ ⟨some d,.load t x,ty,pos,af,g⟩=true:=by exact rfl)(e:Nat.blt d N=true:=by exact rfl):RL P N ops Q (⟨some d,.load t x,ty,pos,af,g⟩::rest) ρ w:=aF hw e (zY c hx hs hl (Blk.cells (H.V h))) k
theorem WJ {β:Type}{b:Bool}{x y:Option β}{r:β}{c:Operand}{s t:Code}(a:gQ b x y=some r)(ht:x=some r->WP P N s Q ρ w)(hf:y=some r->WP P N t Q ρ w)(hc:ev ρ c=vb b:=by exact rfl):WP P N (.cond c s t) Q ρ w:=WI a hc ht hf
theorem RJ {β:Type}{b:Bool}{x y:Option β}{r:β}{z:Operand}(a:gQ b x y=some r)(ht:x=some r->RL P N ops Q rest (upd ρ d (vb true)) w)(hf:y=some r->RL P N ops Q rest (upd ρ d (vb false)) w)(hx:ev ρ z=vb b:=by exact rfl)(hw:fU N ops ρ ⟨some d,.move z,ty,pos,af,g⟩=true:=by exact rfl)(c:Nat.blt d N=true:=by exact rfl):RL P N ops Q (⟨some d,.move z,ty,pos,af,g⟩::rest) ρ w:=RI a hx ht hf hw c
end
abbrev Sm {O S:List Nat}{v w:World}{l:List Th}(_:Hd O v w S l)(w':World)(l':List Th):Prop:=Hd O v w' S l'
section
variable {P:Program}{N:Nat}{Q:Exit->Env->World->Prop}{ρ:Env}{w wo:World}{O S:List Nat}{T:List Th}{X Y β:Type}{r:β}{c x y:Code}
abbrev pj (J:List Nat)(t T:List Th):=Go.Lf.pick J (t++T)
theorem jo (_:Hd O wo w S T)(W:List Nat)(l:Y->List (Nat×Value))(t:Y->List Th)(J:List Nat)(h:WP P N x (nS (λρ' a=>Fr W ρ ρ'/\ ∃z:Y,Sl ρ' (l z)/\Hd O wo a S (pj J (t z) T)) Q) ρ w)(k: ∀z ρ₁ w,Hd O wo w S (pj J (t z) T)->WP P N y Q (over ρ ρ₁ W (l z)) w):WP P N (.seq x y) Q ρ w:=aQw W l (λz wl=>Hd O wo wl S (pj J (t z) T)) h k
theorem jk {b:X->Option β}{m:(X->Option β)->Option β}(a:bD b m=some r)(_:Hd O wo w S T)(W:List Nat)(l:X->Y->List (Nat×Value))(t:X->Y->List Th)(J:List Nat)(h: ∀k:X->Option β,m k=some r->WP P N x (nS (λρ' c=>Fr W ρ ρ'/\ ∃u v,Sl ρ' (l u v)/\Hd O wo c S (pj J (t u v) T)/\k u=some r) Q) ρ w)(k: ∀u v ρ₁ w,Hd O wo w S (pj J (t u v) T)->b u=some r->WP P N y Q (over ρ ρ₁ W (l u v)) w):WP P N (.seq x y) Q ρ w:=by
 refine aQw (G:=X×Y) W (λg=>l g.1 g.2) (λg wl=>Hd O wo wl S (pj J (t g.1 g.2) T)/\b g.1=some r) ((h b a).mono ?_) (λg ρ₁ w hg=>k g.1 g.2 ρ₁ w hg.1 hg.2);intro e ρ' c hq
 cases e<;>first |(obtain⟨d,u,v,f,i,j⟩:=hq;exact⟨d,(u,v),f,i,j⟩)|exact hq
theorem lo {b:(X->Option β)->X->Option β}{d:X}(a:fD b d=some r)(_:Hd O wo w S T)(W:List Nat)(l:X->Y->List (Nat×Value))(t:X->Y->List Th)(J:List Nat)(f:Y)(j:Hd O wo w S (pj J (t d f) T))(n: ∀k u v ρ₁ w,Hd O wo w S (pj J (t u v) T)->b k u=some r->WP P N c (nS (λρ' i=>Fr W ρ ρ'/\ ∃u v,Sl ρ' (l u v)/\Hd O wo i S (pj J (t u v) T)/\k u=some r) Q) (over ρ ρ₁ W (l u v)) w)(hs:Sl ρ (l d f):=by repeat (first |exact yR|refine yC rfl ?_)):WP P N (.loop c) Q ρ w:=by
 obtain⟨B,m,rfl,o⟩:=aWu a;refine WP_loopS (G:=Nat×X×Y) W (λg=>l g.2.1 g.2.2) (λg wl=>Hd O wo wl S (pj J (t g.2.1 g.2.2) T)/\eP B g.1 g.2.1=some r) (λg=>g.1) (m,d,f) hs ⟨j,o⟩ ?_;rintro⟨m,u,v⟩ ρ₁ w ⟨p,h⟩;obtain⟨m,rfl,h⟩:=loopN_pos h;refine(n (eP B m) u v ρ₁ w p h).mono ?_;intro e ρ' i hq
 cases e<;>first |(obtain⟨q,u',v',s,x,y⟩:=hq;exact⟨q,(m,u',v'),s,⟨x,y⟩,Nat.lt_succ_self _⟩)|exact hq
theorem me {W:List Nat}{ρ ρ':Env}{k:X->Option β}{l:X->Y->List (Nat×Value)}{B:X->Y->Prop}{u:X}(a:k u=some r)(y:Y)(h:B u y)(hs:Sl ρ' (l u y):=by repeat (first |exact yR|refine yC rfl ?_))(hf:Fr W ρ ρ':=by repeat' (first |with_reducible exact aEh|refine aQq rfl ?_|refine aJf rfl rfl ?_)):Fr W ρ ρ'/\ ∃u v,Sl ρ' (l u v)/\B u v/\k u=some r:=⟨hf,u,y,hs,h,a⟩
end
section
variable {P:Program}{N:Nat}{ops:Array Oper}{Q:Exit->Env->World->Prop}{rest:List Oper}{ρ:Env}{w wo:World}{d dd:Nat}{op:Op}{t e tt uu ty tyy:TypeId}{x y xx:Operand}{pos poo:String}{af aff:Array Edge}{g gg:Option (Nat×Bool)}{f:FuncId}{args:Array Operand}{at_:Array TypeId}{vs:List Value}{O S:List Nat}{l:List Th}{α β A B C D:Type}{r:β}{v:Value}
theorem xu {R:World->Prop}(h: ∃a,DoU P ⟨none,op,ty,pos,af,g⟩ ρ w a/\R a)(k: ∀a,R a->RL P N ops Q rest ρ a)(hw:fU N ops ρ ⟨none,op,ty,pos,af,g⟩=true:=by exact rfl):RL P N ops Q (⟨none,op,ty,pos,af,g⟩::rest) ρ w:=RL_exU hw h k
theorem xv {R:Value->World->Prop}(h: ∃v a,Do P ⟨some d,op,ty,pos,af,g⟩ ρ w v a/\R v a)(k: ∀v a,R v a->RL P N ops Q rest (upd ρ d v) a)(hw:fU N ops ρ ⟨some d,op,ty,pos,af,g⟩=true:=by exact rfl)(hd:Nat.blt d N=true:=by exact rfl):RL P N ops Q (⟨some d,op,ty,pos,af,g⟩::rest) ρ w:=wL hw hd h k
theorem xb {R:Nat->World->Prop}(h: ∃v a,Do P ⟨some d,op,ty,pos,af,g⟩ ρ w v a/\ ∃b,v= .pointer (some ⟨b,0,none⟩)/\R b a)(k: ∀b a,R b a->RL P N ops Q rest (upd ρ d (.pointer (some ⟨b,0,none⟩))) a)(hw:fU N ops ρ ⟨some d,op,ty,pos,af,g⟩=true:=by exact rfl)(hd:Nat.blt d N=true:=by exact rfl):RL P N ops Q (⟨some d,op,ty,pos,af,g⟩::rest) ρ w:=wL hw hd h λ_ _ ⟨b,e,q⟩=>e▸k b _ q
theorem ln {L:List α}{rr:Rp α}{F:Nat->Prop}{k:Int->Option β}{b:World}(f:gJ (L.length:Int) k=some r)(h:SlF rr F b v L)(hu:P.underlying t=some (.slice e))(n: ∀x,k x=some r->RL P N ops Q rest (upd ρ d (.int .i64 x)) w)(hx:ev ρ x=v:=by exact rfl)(hw:fU N ops ρ ⟨some d,.call {callee:= .builtin .len,args:= #[x],argTypes:= #[t]},ty,pos,af,g⟩=true:=by exact rfl)(i:Nat.blt d N=true:=by exact rfl):RL P N ops Q (⟨some d,.call {callee:= .builtin .len,args:= #[x],argTypes:= #[t]},ty,pos,af,g⟩::rest) ρ w:=by
 obtain⟨a,c,q⟩:=SlF.len h;exact aF hw i (aS hu (hx.trans q)) (n _ f)
theorem lr {L:List α}{R:Go.Lf.Rt α}{D:Hol}{bs:List Nat}{F:Nat->Prop}{k:Int->Option β}{b:World}(f:gJ (L.length:Int) k=some r)(h:(Rt.row R uu D).rd F b [v] bs L)(hu:P.underlying t=some (.slice e))(n: ∀x,k x=some r->RL P N ops Q rest (upd ρ d (.int .i64 x)) w)(hx:ev ρ x=v:=by exact rfl)(hw:fU N ops ρ ⟨some d,.call {callee:= .builtin .len,args:= #[x],argTypes:= #[t]},ty,pos,af,g⟩=true:=by exact rfl)(i:Nat.blt d N=true:=by exact rfl):RL P N ops Q (⟨some d,.call {callee:= .builtin .len,args:= #[x],argTypes:= #[t]},ty,pos,af,g⟩::rest) ρ w:=by
 obtain⟨a,c,q⟩:=jS h;exact aF hw i (aS hu (hx.trans q)) (n _ f)
theorem rea {L:List α}{a:α}{rr:Rp α}{j:Int}{kk:IntKind}(H:Hd O wo w S l)(k:SlF rr (frees O l) w v L)(z:Value)(h:at' L j=some a)(hu:P.underlying t=some (.slice e))(hs:Sz P e 1)(p:aDl P tt)(n: ∀b o,Hd O wo w S (l++[.fz (.at b (o+j.toNat*1) [z])])->RL P N ops Q rest (upd (upd ρ d (.pointer (some ⟨b,o+j.toNat*1,none⟩))) dd z) w)(hc: ∀F w cs,rr.rd F w cs a->cs=[z]:=by exact λ_ _ _ h=>h)(r:rr.sz=1:=by exact rfl)(hx:ev ρ x=v:=by exact rfl)(hy:ev ρ y= .int kk j:=by exact rfl)(s: ∀q,ev (upd ρ d q) xx=q:=by exact λ_=>rfl)(hw:fU N ops ρ ⟨some d,.indexAddr t x y,ty,pos,af,g⟩=true:=by exact rfl)(hd:Nat.blt d N=true:=by exact rfl)(hv: ∀q,fU N ops (upd ρ d q) ⟨some dd,.load tt xx,tyy,poo,aff,gg⟩=true:=by exact λ_=>rfl)(u:Nat.blt dd N=true:=by exact rfl):RL P N ops Q (⟨some d,.indexAddr t x y,ty,pos,af,g⟩::⟨some dd,.load tt xx,tyy,poo,aff,gg⟩::rest) ρ w:=by
 obtain⟨b,o,c,cs,q,A,B,C,f⟩:=yY k h;obtain rfl:=hc _ _ _ A;rw [r]at f;refine aF hw hd (yV hu hs (hx.trans q) hy (zU h).1 (zU h).2.1 rfl rfl) (aF (hv _) u (yB p (s _) (Cells.get f (i:=0) rfl)) ?_);exact n b o (H.fz (.at b (o+j.toNat*1) [z]) ⟨B,C,f⟩)
theorem cAz {V:Value}{R:World->Prop}(he:Go.OB.Enters P f)(hc:Calls P f vs.toArray w λe a=>e= .returned V/\R a)(n: ∀a,R a->RL P N ops Q rest (upd ρ d V) a)(ha:args.toList.map (ev ρ)=vs:=by exact rfl)(hw:fU N ops ρ ⟨some d,.call {callee:= .value (.func f),args:=args,argTypes:=at_},ty,pos,af,g⟩=true:=by exact rfl)(b:Nat.blt d N=true:=by exact rfl):RL P N ops Q (⟨some d,.call {callee:= .value (.func f),args:=args,argTypes:=at_},ty,pos,af,g⟩::rest) ρ w:=xE hw b (yA he ha) hc λ_ _ ⟨e,q⟩=>⟨_,e,n _ q⟩
theorem cAa {V:A->Value}{R:A->World->Prop}(he:Go.OB.Enters P f)(hc:Calls P f vs.toArray w λe b=> ∃a,e= .returned (V a)/\R a b)(n: ∀a b,R a b->RL P N ops Q rest (upd ρ d (V a)) b)(ha:args.toList.map (ev ρ)=vs:=by exact rfl)(hw:fU N ops ρ ⟨some d,.call {callee:= .value (.func f),args:=args,argTypes:=at_},ty,pos,af,g⟩=true:=by exact rfl)(c:Nat.blt d N=true:=by exact rfl):RL P N ops Q (⟨some d,.call {callee:= .value (.func f),args:=args,argTypes:=at_},ty,pos,af,g⟩::rest) ρ w:=xE hw c (yA he ha) hc λ_ _ ⟨a,e,q⟩=>⟨_,e,n a _ q⟩
theorem cAb {V:A->B->Value}{R:A->B->World->Prop}(he:Go.OB.Enters P f)(hc:Calls P f vs.toArray w λe c=> ∃a b,e= .returned (V a b)/\R a b c)(n: ∀a b c,R a b c->RL P N ops Q rest (upd ρ d (V a b)) c)(ha:args.toList.map (ev ρ)=vs:=by exact rfl)(hw:fU N ops ρ ⟨some d,.call {callee:= .value (.func f),args:=args,argTypes:=at_},ty,pos,af,g⟩=true:=by exact rfl)(h:Nat.blt d N=true:=by exact rfl):RL P N ops Q (⟨some d,.call {callee:= .value (.func f),args:=args,argTypes:=at_},ty,pos,af,g⟩::rest) ρ w:=xE hw h (yA he ha) hc λ_ _ ⟨a,b,e,q⟩=>⟨_,e,n a b _ q⟩
theorem cAc {V:A->B->C->Value}{R:A->B->C->World->Prop}(he:Go.OB.Enters P f)(hc:Calls P f vs.toArray w λe h=> ∃a b c,e= .returned (V a b c)/\R a b c h)(n: ∀a b c h,R a b c h->RL P N ops Q rest (upd ρ d (V a b c)) h)(ha:args.toList.map (ev ρ)=vs:=by exact rfl)(hw:fU N ops ρ ⟨some d,.call {callee:= .value (.func f),args:=args,argTypes:=at_},ty,pos,af,g⟩=true:=by exact rfl)(i:Nat.blt d N=true:=by exact rfl):RL P N ops Q (⟨some d,.call {callee:= .value (.func f),args:=args,argTypes:=at_},ty,pos,af,g⟩::rest) ρ w:=xE hw i (yA he ha) hc λ_ _ ⟨a,b,c,e,q⟩=>⟨_,e,n a b c _ q⟩
theorem cAd {V:A->B->C->D->Value}{R:A->B->C->D->World->Prop}(he:Go.OB.Enters P f)(hc:Calls P f vs.toArray w λe h=> ∃a b c z,e= .returned (V a b c z)/\R a b c z h)(n: ∀a b c z h,R a b c z h->RL P N ops Q rest (upd ρ d (V a b c z)) h)(ha:args.toList.map (ev ρ)=vs:=by exact rfl)(hw:fU N ops ρ ⟨some d,.call {callee:= .value (.func f),args:=args,argTypes:=at_},ty,pos,af,g⟩=true:=by exact rfl)(i:Nat.blt d N=true:=by exact rfl):RL P N ops Q (⟨some d,.call {callee:= .value (.func f),args:=args,argTypes:=at_},ty,pos,af,g⟩::rest) ρ w:=xE hw i (yA he ha) hc λ_ _ ⟨a,b,c,z,e,q⟩=>⟨_,e,n a b c z _ q⟩
abbrev KOne (rr:Rp α)(f:α->Value):Prop:=(∀F w c x,rr.rd F w c x↔c=[f x])/\rr.sz=1/\ ∀x,(f x).cells= #[f x]
theorem aUn:KOne Rp.str (λs=> .string (bs s)):=⟨λ_ _ _ _=>Iff.rfl,rfl,λ_=>rfl⟩
theorem aLn:KOne (Rp.int .i64) (.int .i64):=⟨λ_ _ _ _=>Iff.rfl,rfl,λ_=>rfl⟩
theorem kByt:KOne (Rp.int .u8) (.int .u8):=⟨λ_ _ _ _=>Iff.rfl,rfl,λ_=>rfl⟩
theorem ll {rr:Rp α}{f:α->Value}(k:KOne rr f){len bytes:Nat}{zs:List Value}{parts:Array (Nat×Operand)}(xl:List α)(hu:P.underlying t=some (.slice e))(he:El P e rr.sz bytes zs)(H:Hd O wo w S l)(hn:xl.length=len:=by exact rfl)(hp:Nat.blt 0 len=true:=by exact rfl)(hs:Nat.ble len 16777216=true:=by exact rfl)(hi:parts.toList.map Prod.fst=List.range len:=by exact rfl)(hv:parts.toList.map (λp=>ev ρ p.2)=xl.map f:=by exact rfl): ∃v b,Do P ⟨some d,.buildSlice t len parts,ty,pos,af,g⟩ ρ w v b/\fO w b/\Hd O wo b S (l++[.own rr v e xl]):=by
 obtain⟨hl,a,hc⟩:=k;have j: ∀xl:List α,aTz 1 (xl.map f):=λxl=>by
  induction xl with
  |nil=>exact True.intro
  |cons x xl ih=>exact⟨by rw [hc];rfl,ih⟩
 have n: ∀xl:List α,rows rr (frees O l) w (xl.map f) xl:=λxl=>by
  induction xl with
  |nil=>rfl
  |cons x xl ih=>exact⟨[f x],_,rfl,(hl _ _ _ _).2 rfl,ih⟩
 have o:(xl.map f).flatMap (λv=>v.cells.toList)=xl.map f:=by
  clear hn hv
  induction xl with
  |nil=>rfl
  |cons x xl ih=>rw [List.map_cons,List.flatMap_cons,ih,hc];rfl
 have c:len*rr.sz<=16777216:=by rw [a,Nat.mul_one];exact Nat.le_of_ble_eq_true hs
 have h:0<len*rr.sz:=by rw [a,Nat.mul_one];exact Nat.le_of_ble_eq_true hp
 have i:tX rr.sz len zs (parts.toList.map λp=>(p.1,ev ρ p.2))=some (xl.map f):=xN (by rw [a];decide) hi hv (by rw [a];exact j xl) o;exact jT (aNz hu he c h hn i H (n xl)) (aAt hu he c h i)
theorem snd3 {R Y Z:Value->World->Prop}(h: ∃v c,R v c/\Y v c/\Z v c): ∃v c,R v c/\Z v c:=let ⟨v,c,a,_,b⟩:=h;⟨v,c,a,b⟩
theorem kl {rr:Rp α}{f:α->Value}(k:KOne rr f){len bytes:Nat}{zs:List Value}{parts:Array (Nat×Operand)}(xl:List α)(hu:P.underlying t=some (.slice e))(he:El P e rr.sz bytes zs)(H:Hd O wo w S l)(hn:xl.length=len:=by exact rfl)(hp:Nat.blt 0 len=true:=by exact rfl)(hs:Nat.ble len 16777216=true:=by exact rfl)(hi:parts.toList.map Prod.fst=List.range len:=by exact rfl)(hv:parts.toList.map (λp=>ev ρ p.2)=xl.map f:=by exact rfl): ∃v a,Do P ⟨some d,.buildSlice t len parts,ty,pos,af,g⟩ ρ w v a/\Hd O wo a S (l++[.own rr v e xl]):=snd3 (ll k xl hu he H hn hp hs hi hv)
theorem lOne (rr:Rp α)(x:α)(cs:List Value){bytes:Nat}{zs:List Value}{q:Operand}(hu:P.underlying t=some (.slice e))(he:El P e rr.sz bytes zs)(hr:rr.rd (frees O l) w cs x)(H:Hd O wo w S l)(a:cs.length=rr.sz:=by exact rfl)(c:Nat.blt 0 cs.length=true:=by exact rfl)(j:Nat.ble cs.length 16777216=true:=by exact rfl)(hv:ev ρ q= .agg cs.toArray:=by exact rfl): ∃v b,Do P ⟨some d,.buildSlice t 1 #[(0,q)],ty,pos,af,g⟩ ρ w v b/\fO w b/\Hd O wo b S (l++[.own rr v e [x]]):=by
 have f:1*rr.sz<=16777216:=by rw [<-a,Nat.one_mul];exact Nat.le_of_ble_eq_true j
 have h:0<1*rr.sz:=by rw [<-a,Nat.one_mul];exact Nat.le_of_ble_eq_true c
 have i:tX rr.sz 1 zs ((#[(0,q)]:Array (Nat×Operand)).toList.map λp=>(p.1,ev ρ p.2))=some cs:=xN (vs:=[.agg cs.toArray]) (by rw [<-a];exact Nat.le_of_ble_eq_true c) rfl (by simp [hv]) ⟨by rw [<-a];simp [Value.cells],T1⟩ (by simp [Value.cells]);exact jT (aNz hu he f h rfl i H ⟨cs,[],by simp,hr,rfl⟩) (aAt hu he f h i)
theorem aSq (rr:Rp α)(x:α)(cs:List Value){bytes:Nat}{zs:List Value}{q:Operand}(hu:P.underlying t=some (.slice e))(he:El P e rr.sz bytes zs)(hr:rr.rd (frees O l) w cs x)(H:Hd O wo w S l)(b:cs.length=rr.sz:=by exact rfl)(c:Nat.blt 0 cs.length=true:=by exact rfl)(f:Nat.ble cs.length 16777216=true:=by exact rfl)(hv:ev ρ q= .agg cs.toArray:=by exact rfl): ∃v a,Do P ⟨some d,.buildSlice t 1 #[(0,q)],ty,pos,af,g⟩ ρ w v a/\Hd O wo a S (l++[.own rr v e [x]]):=snd3 (lOne rr x cs hu he hr H b c f hv)
theorem Xu {κ:List MxM.Kd}{K:MxM.Mm->Env->World->Prop}{k:Nat}{M:MxM.Mm}{σ Si:List Nat}{vo:World}{R:World->World->Prop}(h: ∀b,fO w b-> ∃a,DoU P ⟨none,op,ty,pos,af,g⟩ ρ b a/\R b a)(n: ∀b a,fO w b->R b a->MxM.XL P (λa=>Only Si vo a) N ops κ K none σ rest ρ a)(ho: ∀b a,R b a->Only Si vo a:=by exact λ_ _ h=>h.only)(hk:MxM.kdOf κ k= .eff:=by exact rfl)(hw:fU N ops ρ ⟨none,op,ty,pos,af,g⟩=true:=by exact rfl):MxM.XL P (λa=>Only Si vo a) N ops κ K M (k::σ) (⟨none,op,ty,pos,af,g⟩::rest) ρ w:=MxM.XL_exU oS hk hw h λ_ _ s q=>⟨ho _ _ q,n _ _ s q⟩
theorem Xe {κ:List MxM.Kd}{K:MxM.Mm->Env->World->Prop}{k:Nat}{M:MxM.Mm}{σ Si:List Nat}{vo:World}{R:World->Value->World->Prop}(h: ∀b,fO w b-> ∃v a,Do P ⟨some d,op,ty,pos,af,g⟩ ρ b v a/\R b v a)(n: ∀b v a,fO w b->R b v a->MxM.XL P (λa=>Only Si vo a) N ops κ K none σ rest (upd ρ d v) a)(ho: ∀b v a,R b v a->Only Si vo a:=by exact λ_ _ _ h=>h.only)(hk:MxM.kdOf κ k= .eff:=by exact rfl)(hw:fU N ops ρ ⟨some d,op,ty,pos,af,g⟩=true:=by exact rfl)(hd:Nat.blt d N=true:=by exact rfl):MxM.XL P (λa=>Only Si vo a) N ops κ K M (k::σ) (⟨some d,op,ty,pos,af,g⟩::rest) ρ w:=MxM.XL_ex oS hk hw hd h λ_ _ _ s q=>⟨ho _ _ _ q,n _ _ _ s q⟩
theorem Xf {κ:List MxM.Kd}{K:MxM.Mm->Env->World->Prop}{k:Nat}{M:MxM.Mm}{σ Si:List Nat}{vo:World}{R:World->Value->World->α->Prop}(h: ∀c,fO w c-> ∃v b,Do P ⟨some d,op,ty,pos,af,g⟩ ρ c v b/\ ∃a,R c v b a)(n: ∀c v b,fO w c-> ∀a,R c v b a->MxM.XL P (λb=>Only Si vo b) N ops κ K none σ rest (upd ρ d v) b)(ho: ∀c v b a,R c v b a->Only Si vo b:=by exact λ_ _ _ _ h=>h.only)(hk:MxM.kdOf κ k= .eff:=by exact rfl)(hw:fU N ops ρ ⟨some d,op,ty,pos,af,g⟩=true:=by exact rfl)(hd:Nat.blt d N=true:=by exact rfl):MxM.XL P (λb=>Only Si vo b) N ops κ K M (k::σ) (⟨some d,op,ty,pos,af,g⟩::rest) ρ w:=MxM.XL_ex oS hk hw hd h λ_ _ _ s ⟨_,q⟩=>⟨ho _ _ _ _ q,n _ _ _ s _ q⟩
end
abbrev Cl (f:Nat)(a:List Value)(w:World)(R:Ending->World->Prop):Prop:=Calls Tryz.prog f a.toArray w R
abbrev Rt (f:Nat)(a:List Value)(v:Value)(w:World)(O S:List Nat)(L:List Th):Prop:=Cl f a w λe h=>e= .returned v/\Hd O w h S L
abbrev i6 (n:Int):Value:= .int .i64 n
abbrev sb (s:Str):Value:= .string (bs s)
abbrev f1 {α:Type}(r:Rp α)(v:Value)(l:List α):Th:= .fz (.sl r v l)
theorem Hbc {O S:List Nat}{a w:World}{l:List Th}{b:Nat}{T:TypeId}{cs:List Value}(H:Hd O a w S l)(i:Nat)(h:l[i]? =some (.blk b cs T)):Cells w ⟨b,0,none⟩ cs:=Blk.cells (H.V h)
theorem Hbg {O S:List Nat}{a w:World}{l:List Th}{b:Nat}{T:TypeId}{cs:List Value}{v:Value}(H:Hd O a w S l)(i j:Nat)(h:l[i]? =some (.blk b cs T))(c:cs[j]? =some v):w.cell? ⟨b,0+j,none⟩=some v:=Cells.get (Blk.cells (H.V h)) c
theorem XP {P:Program}{I:World->Prop}{N:Nat}{ops:Array Oper}{κ:List MxM.Kd}{K:MxM.Mm->Env->World->Prop}{k:Nat}{M:MxM.Mm}{σ:List Nat}{rest:List Oper}{ρ:Env}{w:World}{d:Nat}{ty:TypeId}{pos:String}{af:Array Edge}{g:Option (Nat×Bool)}{v:Value}{op:Op}(h: ∀a,I a->Do P ⟨some d,op,ty,pos,af,g⟩ ρ a v a)(n:MxM.XL P I N ops κ K M σ rest (upd ρ d v) w)(hk:MxM.kdOf κ k= .pure:=by exact rfl)(hw:fU N ops ρ ⟨some d,op,ty,pos,af,g⟩=true:=by exact rfl)(hd:Nat.blt d N=true:=by exact rfl):MxM.XL P I N ops κ K M (k::σ) (⟨some d,op,ty,pos,af,g⟩::rest) ρ w:=MxM.XL_pure hk hw hd h n
theorem XO {P:Program}{I:World->Prop}{N:Nat}{ops:Array Oper}{κ:List MxM.Kd}{K:MxM.Mm->Env->World->Prop}{k:Nat}{M:MxM.Mm}{σ:List Nat}{rest:List Oper}{ρ:Env}{w:World}{d:Nat}{ty:TypeId}{pos:String}{af:Array Edge}{g:Option (Nat×Bool)}{op:Op}(n:MxM.XL P I N ops κ K M σ rest (upd ρ d undef) w)(hk:MxM.kdOf κ k= .pure:=by exact rfl)(hw:fU N ops ρ ⟨some d,op,ty,pos,af,g⟩=false:=by exact rfl)(hd:Nat.blt d N=true:=by exact rfl):MxM.XL P I N ops κ K M (k::σ) (⟨some d,op,ty,pos,af,g⟩::rest) ρ w:=MxM.XL_offp hk hw hd n
theorem XM {P:Program}{I:World->Prop}{N:Nat}{ops:Array Oper}{κ:List MxM.Kd}{K:MxM.Mm->Env->World->Prop}{k:Nat}{M:MxM.Mm}{σ:List Nat}{rest:List Oper}{ρ:Env}{w:World}{d:Nat}{ty:TypeId}{pos:String}{af:Array Edge}{g:Option (Nat×Bool)}{x:Operand}(v:Value)(n:MxM.XL P I N ops κ K M σ rest (upd ρ d v) w)(hx:ev ρ x=v:=by exact rfl)(hk:MxM.kdOf κ k= .pure:=by exact rfl)(hw:fU N ops ρ ⟨some d,.move x,ty,pos,af,g⟩=true:=by exact rfl)(hd:Nat.blt d N=true:=by exact rfl):MxM.XL P I N ops κ K M (k::σ) (⟨some d,.move x,ty,pos,af,g⟩::rest) ρ w:=MxM.XL_pure hk hw hd (λ_ _=>nI hx) n
theorem XR {P:Program}{c:World}{e:List Nat}{N:Nat}{ops:Array Oper}{κ:List MxM.Kd}{K:MxM.Mm->Env->World->Prop}{k:Nat}{M:MxM.Mm}{σ:List Nat}{rest:List Oper}{ρ:Env}{w:World}{d:Nat}{ty:TypeId}{pos:String}{af:Array Edge}{g:Option (Nat×Bool)}{t:TypeId}{x:Operand}{O S:List Nat}{f:World}{l:List Th}{b:Nat}{T:TypeId}{cs:List Value}{v:Value}(o:aDl P t)(H:Hd O f w S l)(i j:Nat)(h:l[i]? =some (.blk b cs T))(p:cs[j]? =some v)(n:MxM.XL P (λa=>Only e c a) N ops κ K M σ rest (upd ρ d v) w)(hx:ev ρ x= .pointer (some ⟨b,0+j,none⟩):=by exact rfl)(hk:MxM.kdOf κ k= .read:=by exact rfl)(hw:fU N ops ρ ⟨some d,.load t x,ty,pos,af,g⟩=true:=by exact rfl)(hd:Nat.blt d N=true:=by exact rfl):MxM.XL P (λa=>Only e c a) N ops κ K M (k::σ) (⟨some d,.load t x,ty,pos,af,g⟩::rest) ρ w:=MxM.yS oS hk hw hd (λ_ q=>yB o hx (Hbg (H.Z q) i j h p)) n
theorem Ld {P:Program}{N:Nat}{ops:Array Oper}{Q:Exit->Env->World->Prop}{rest:List Oper}{ρ:Env}{w:World}{d:Nat}{t ty:TypeId}{x:Operand}{pos:String}{af:Array Edge}{g:Option (Nat×Bool)}{O S:List Nat}{a:World}{l:List Th}{b:Nat}{T:TypeId}{cs:List Value}{v:Value}(o:aDl P t)(H:Hd O a w S l)(i j:Nat)(h:l[i]? =some (.blk b cs T))(c:cs[j]? =some v)(k:RL P N ops Q rest (upd ρ d v) w)(hx:ev ρ x= .pointer (some ⟨b,0+j,none⟩):=by exact rfl)(hw:fU N ops ρ ⟨some d,.load t x,ty,pos,af,g⟩=true:=by exact rfl)(hd:Nat.blt d N=true:=by exact rfl):RL P N ops Q (⟨some d,.load t x,ty,pos,af,g⟩::rest) ρ w:=zQ (yB o hx (Hbg H i j h c)) k hw hd
theorem fH {f:FuncId}{fn:Func}(h:Tryz.prog.funcs[f]? =some fn)(a:fn.body.isSome=true:=by exact rfl)(b:(fn.name== "runtime.NumGoroutine")=false:=by kernel_rfl):Go.OB.Enters Tryz.prog f:=⟨_,h,a,b⟩
theorem u2:Tryz.prog.underlying 2=some (.int .i64):=Tryz.underlying2
theorem u3:Tryz.prog.underlying 3=some (.int .i64):=Tryz.underlying3
theorem u5:Tryz.prog.underlying 5=some (.int .u8):=Tryz.underlying5
theorem u9:Tryz.prog.underlying 9=some .string:=Tryz.underlying9
theorem u22:Tryz.prog.underlying 22=some (.slice 82):=Tryz.underlying22
theorem u25:Tryz.prog.underlying 25=some (.slice 9):=Tryz.underlying25
theorem u26:Tryz.prog.underlying 26=some (.slice 103):=Tryz.underlying26
theorem u27:Tryz.prog.underlying 27=some (.slice 109):=Tryz.underlying27
theorem u31:Tryz.prog.underlying 31=some (.slice 3):=Tryz.underlying31
theorem u36:Tryz.prog.underlying 36=some (.slice 31):=Tryz.underlying36
theorem u44:Tryz.prog.underlying 44=some (.slice 5):=Tryz.underlying44
theorem u55:Tryz.prog.underlying 55=some (.slice 25):=Tryz.underlying55
theorem u61:Tryz.prog.underlying 61=some (.slice 58):=Tryz.underlying61
theorem u64:Tryz.prog.underlying 64=some (.slice 4):=Tryz.underlying64
theorem u65:Tryz.prog.underlying 65=some (.slice 68):=Tryz.underlying65
theorem u74:Tryz.prog.underlying 74=some (.slice 130):=Tryz.underlying74
theorem u78:Tryz.prog.underlying 78=some (.slice 126):=Tryz.underlying78
theorem u86:Tryz.prog.underlying 86=some (.slice 88):=Tryz.underlying86
theorem u89:Tryz.prog.underlying 89=some (.slice 213):=Tryz.underlying89
theorem u90:Tryz.prog.underlying 90=some (.slice 235):=Tryz.underlying90
theorem u93:Tryz.prog.underlying 93=some (.slice 92):=Tryz.underlying93
theorem u115:Tryz.prog.underlying 115=some (.pointer 82):=Tryz.underlying115
theorem aWc:Tryz.prog.underlying 117=some (.slice 154):=Tryz.underlying117
theorem aCy:Tryz.prog.underlying 118=some (.slice 151):=Tryz.underlying118
theorem aYv:Tryz.prog.underlying 146=some (.map 9 3):=Tryz.underlying146
theorem aRj:Tryz.prog.underlying 172=some (.int .u64):=Tryz.underlying172
theorem u198:Tryz.prog.underlying 198=some (.array 3 3):=Tryz.underlying198
theorem u213:Tryz.prog.underlying 213=some (.int .i8):=Tryz.underlying213
theorem u229:Tryz.prog.underlying 229=some (.int .u64):=Tryz.underlying229
abbrev szZ (a b:Nat):Prop:=Sz Tryz.prog a b
theorem szO {a b:Nat}(h:Sz Tryz.prog a b:=by unfold Sz;kernel_rfl):szZ a b:=h
theorem sz3:szZ 3 1:=szO
theorem sz4:szZ 4 1:=szO
theorem sz9:szZ 9 1:=szO
theorem aAo:szZ 24 6:=szO
theorem sz25:szZ 25 1:=szO
theorem jG:szZ 29 3:=szO
theorem tJ:szZ 31 1:=szO
theorem sz36:szZ 36 1:=szO
theorem sz44:szZ 44 1:=szO
theorem aCz:szZ 58 4:=szO
theorem sz64:szZ 64 1:=szO
theorem sz68:szZ 68 5:=szO
theorem sz74:szZ 74 1:=szO
theorem aTo:szZ 80 2:=szO
theorem tC:szZ 82 4:=szO
theorem dI:szZ 88 7:=szO
theorem sz89:szZ 89 1:=szO
theorem sz90:szZ 90 1:=szO
theorem aRc:szZ 92 18:=szO
theorem sz93:szZ 93 1:=szO
theorem sz98:szZ 98 1:=szO
theorem qY:szZ 103 9:=szO
theorem qR:szZ 109 8:=szO
theorem sz117:szZ 117 1:=szO
theorem sz118:szZ 118 1:=szO
theorem bY:szZ 126 3:=szO
theorem mX:szZ 130 2:=szO
theorem aFs:szZ 151 1:=szO
theorem aOt:szZ 154 3:=szO
theorem sz198:szZ 198 3:=szO
theorem aHo:szZ 213 1:=szO
theorem mP:szZ 215 7:=szO
theorem aHr:szZ 235 2:=szO
abbrev uB (a:Nat):Prop:=aDl Tryz.prog a
theorem uV {a:Nat}(h:aDl Tryz.prog a:=by unfold aDl;kernel_rfl):uB a:=h
theorem fA:uB 3:=uV
theorem nG:uB 4:=uV
theorem eU:uB 9:=uV
theorem aDg:uB 22:=uV
theorem bK:uB 25:=uV
theorem wI:uB 26:=uV
theorem jQ:uB 27:=uV
theorem eX:uB 31:=uV
theorem bBl:uB 36:=uV
theorem one44:uB 44:=uV
theorem wS:uB 64:=uV
theorem aNn:uB 74:=uV
theorem vF:uB 78:=uV
theorem mO:uB 86:=uV
theorem aMm:uB 89:=uV
theorem sS:uB 90:=uV
theorem aBn:uB 93:=uV
theorem one98:uB 98:=uV
theorem aWe:uB 117:=uV
theorem aYf:uB 118:=uV
theorem aDp:uB 146:=uV
theorem qA:uB 151:=uV
theorem one213:uB 213:=uV
abbrev aDs (a:Nat):Prop:=Agg Tryz.prog a
theorem aEz {a:Nat}(h:Agg Tryz.prog a:=by unfold Agg;kernel_rfl):aDs a:=h
theorem qU:aDs 24:=aEz
theorem bI:aDs 29:=aEz
theorem aPg:aDs 58:=aEz
theorem aHw:aDs 80:=aEz
theorem aUq:aDs 82:=aEz
theorem dB:aDs 88:=aEz
theorem agg92:aDs 92:=aEz
theorem aGf:aDs 103:=aEz
theorem aQy:aDs 109:=aEz
theorem qM:aDs 126:=aEz
theorem aDz:aDs 130:=aEz
theorem agg154:aDs 154:=aEz
theorem agg198:aDs 198:=aEz
theorem uQ:aDs 215:=aEz
theorem zero3:Go.OB.Zero Tryz.prog 3 ([i6 0]):=by unfold Go.OB.Zero;kernel_rfl
theorem zero25:Go.OB.Zero Tryz.prog 25 ([.slice none 0 0]):=by unfold Go.OB.Zero;kernel_rfl
theorem zero31:Go.OB.Zero Tryz.prog 31 ([.slice none 0 0]):=by unfold Go.OB.Zero;kernel_rfl
theorem zero36:Go.OB.Zero Tryz.prog 36 ([.slice none 0 0]):=by unfold Go.OB.Zero;kernel_rfl
theorem aMi:Go.OB.Zero Tryz.prog 58 ([.string (bs []),vb false,i6 0,.slice none 0 0]):=by unfold Go.OB.Zero;kernel_rfl
theorem zero64:Go.OB.Zero Tryz.prog 64 ([.slice none 0 0]):=by unfold Go.OB.Zero;kernel_rfl
theorem aXv:Go.OB.Zero Tryz.prog 82 ([.string (bs []),i6 0,.slice none 0 0,i6 0]):=by unfold Go.OB.Zero;kernel_rfl
theorem aDn:Go.OB.Zero Tryz.prog 88 ([i6 0,.string (bs []),.string (bs []),i6 0,i6 0,i6 0,.slice none 0 0]):=by unfold Go.OB.Zero;kernel_rfl
theorem zero92:Go.OB.Zero Tryz.prog 92 ([i6 0,.string (bs []),.string (bs []),i6 0,i6 0,i6 0,.slice none 0 0,.slice none 0 0,i6 0,i6 0,i6 0,.slice none 0 0,i6 0,i6 0,i6 0,i6 0,.slice none 0 0,.slice none 0 0]):=by unfold Go.OB.Zero;kernel_rfl
theorem zero98:Go.OB.Zero Tryz.prog 98 ([.nilFunc]):=by unfold Go.OB.Zero;kernel_rfl
theorem aFc:Go.OB.Zero Tryz.prog 103 ([.string (bs []),.string (bs []),i6 0,.string (bs []),.string (bs []),i6 0,i6 0,i6 0,.slice none 0 0]):=by unfold Go.OB.Zero;kernel_rfl
theorem aQl:Go.OB.Zero Tryz.prog 109 ([.string (bs []),i6 0,.string (bs []),.string (bs []),i6 0,i6 0,i6 0,.slice none 0 0]):=by unfold Go.OB.Zero;kernel_rfl
theorem vP:Go.OB.Zero Tryz.prog 126 ([i6 0,i6 0,i6 0]):=by unfold Go.OB.Zero;kernel_rfl
theorem sF:Go.OB.Zero Tryz.prog 130 ([i6 0,vb false]):=by unfold Go.OB.Zero;kernel_rfl
theorem bBw:Go.OB.Zero Tryz.prog 154 ([i6 0,i6 0,.nilIface]):=by unfold Go.OB.Zero;kernel_rfl
theorem zero198:Go.OB.Zero Tryz.prog 198 ((Fl.arr 3 (Fl.int .i64)).f (Arr.rep 3 0:Arr 3 Int)):=by unfold Go.OB.Zero;kernel_rfl
theorem bAw:Go.OB.Zero Tryz.prog 215 ([vb false,vb false,vb false,vb false,vb false,i6 0,i6 0]):=by unfold Go.OB.Zero;kernel_rfl
theorem el3:El Tryz.prog 3 1 8 ([i6 0]):=⟨by kernel_rfl,by kernel_rfl,by kernel_rfl,by decide,by decide⟩
theorem el4:El Tryz.prog 4 1 1 ([vb false]):=⟨by kernel_rfl,by kernel_rfl,by kernel_rfl,by decide,by decide⟩
theorem el5:El Tryz.prog 5 1 1 ([.int .u8 0]):=⟨by kernel_rfl,by kernel_rfl,by kernel_rfl,by decide,by decide⟩
theorem el9:El Tryz.prog 9 1 16 ([.string (bs [])]):=⟨by kernel_rfl,by kernel_rfl,by kernel_rfl,by decide,by decide⟩
theorem el25:El Tryz.prog 25 1 24 ([.slice none 0 0]):=⟨by kernel_rfl,by kernel_rfl,by kernel_rfl,by decide,by decide⟩
theorem el31:El Tryz.prog 31 1 24 ([.slice none 0 0]):=⟨by kernel_rfl,by kernel_rfl,by kernel_rfl,by decide,by decide⟩
theorem el58:El Tryz.prog 58 4 56 ([.string (bs []),vb false,i6 0,.slice none 0 0]):=⟨by kernel_rfl,by kernel_rfl,by kernel_rfl,by decide,by decide⟩
theorem el68:El Tryz.prog 68 5 32 ([i6 0,i6 0,i6 0,vb false,vb false]):=⟨by kernel_rfl,by kernel_rfl,by kernel_rfl,by decide,by decide⟩
theorem aXa:El Tryz.prog 82 4 56 ([.string (bs []),i6 0,.slice none 0 0,i6 0]):=⟨by kernel_rfl,by kernel_rfl,by kernel_rfl,by decide,by decide⟩
theorem el92:El Tryz.prog 92 18 240 ([i6 0,.string (bs []),.string (bs []),i6 0,i6 0,i6 0,.slice none 0 0,.slice none 0 0,i6 0,i6 0,i6 0,.slice none 0 0,i6 0,i6 0,i6 0,i6 0,.slice none 0 0,.slice none 0 0]):=⟨by kernel_rfl,by kernel_rfl,by kernel_rfl,by decide,by decide⟩
theorem aKl:El Tryz.prog 130 2 16 ([i6 0,vb false]):=⟨by kernel_rfl,by kernel_rfl,by kernel_rfl,by decide,by decide⟩
theorem aUp:El Tryz.prog 151 1 16 ([.nilIface]):=⟨by kernel_rfl,by kernel_rfl,by kernel_rfl,by decide,by decide⟩
theorem el154:El Tryz.prog 154 3 32 ([i6 0,i6 0,.nilIface]):=⟨by kernel_rfl,by kernel_rfl,by kernel_rfl,by decide,by decide⟩
theorem el213:El Tryz.prog 213 1 1 ([.int .i8 0]):=⟨by kernel_rfl,by kernel_rfl,by kernel_rfl,by decide,by decide⟩
theorem aNu:El Tryz.prog 235 2 16 ([i6 0,i6 0]):=⟨by kernel_rfl,by kernel_rfl,by kernel_rfl,by decide,by decide⟩
theorem bz46:Tryz.prog.built 46 []=some ([.slice none 0 0]).toArray:=by kernel_rfl
theorem bz126:Tryz.prog.built 126 []=some ([i6 0,i6 0,i6 0]).toArray:=by kernel_rfl
theorem bz215:Tryz.prog.built 215 []=some ([vb false,vb false,vb false,vb false,vb false,i6 0,i6 0]).toArray:=by kernel_rfl
theorem aLy (a:Str)(b:Int)(c:Option Addr)(d e:Nat):Tryz.prog.built 58 [(0,sb a),(2,i6 b),(3,.slice c d e)]=some [sb a,vb false,i6 b,.slice c d e].toArray:=by kernel_rfl
theorem aKj (a b:Int)(c:Bool):Tryz.prog.built 68 [(0,i6 a),(1,i6 b),(3,vb c)]=some [i6 a,i6 b,i6 0,vb c,vb false].toArray:=by kernel_rfl
theorem bt80_0 (a:Int):Tryz.prog.built 80 [(0,i6 a)]=some [i6 a,.slice none 0 0].toArray:=by kernel_rfl
theorem aSx (a:Str)(b:Int)(c:Option Addr)(d e:Nat):Tryz.prog.built 82 [(0,sb a),(1,.agg [i6 b,.slice c d e].toArray)]=some [sb a,i6 b,.slice c d e,i6 0].toArray:=by kernel_rfl
theorem bt92_0 (a:Int)(b c:Str)(d e f:Int)(h:Option Addr)(i j:Nat):Tryz.prog.built 92 [(0,.agg [i6 a,sb b,sb c,i6 d,i6 e,i6 f,.slice h i j].toArray)]=some [i6 a,sb b,sb c,i6 d,i6 e,i6 f,.slice h i j,.slice none 0 0,i6 0,i6 0,i6 0,.slice none 0 0,i6 0,i6 0,i6 0,i6 0,.slice none 0 0,.slice none 0 0].toArray:=by kernel_rfl
theorem bt95_0_5 (a:Option Addr)(b c:Nat)(d:Option Addr)(e f:Nat)(h:Option Addr)(i j:Nat)(k:Option Addr)(l n:Nat):Tryz.prog.built 95 [(0,.agg [.slice a b c,.slice d e f,.slice h i j].toArray),(5,.slice k l n)]=some [.slice a b c,.slice d e f,.slice h i j,.slice none 0 0,.slice none 0 0,.slice none 0 0,i6 0,.slice k l n,.slice none 0 0,i6 0,.slice none 0 0,.slice none 0 0].toArray:=by kernel_rfl
theorem aTt (a:Option Addr)(b c:Nat)(d:Int)(e:Option Addr)(f h:Nat):Tryz.prog.built 120 [(0,.slice a b c),(1,i6 d),(4,.slice e f h)]=some [.slice a b c,i6 d,.slice none 0 0,.slice none 0 0,.slice e f h].toArray:=by kernel_rfl
theorem aPc (a:Int)(b:Bool):Tryz.prog.built 130 [(0,i6 a),(1,vb b)]=some [i6 a,vb b].toArray:=by kernel_rfl
theorem aUm (a:Option Nat)(b:Option Addr)(c d:Nat)(e:Option Nat):Tryz.prog.built 148 [(0,.map a),(2,.slice b c d),(3,.map e)]=some [.map a,.slice none 0 0,.slice b c d,.map e].toArray:=by kernel_rfl
theorem aSc (a b:Int)(a2T:TypeId)(c:Value):Tryz.prog.built 154 [(0,i6 a),(1,i6 b),(2,.iface a2T c)]=some [i6 a,i6 b,.iface a2T c].toArray:=by kernel_rfl
theorem bt157_0 (a:Option Addr)(b c:Nat):Tryz.prog.built 157 [(0,.slice a b c)]=some [.slice a b c,.slice none 0 0,.slice none 0 0].toArray:=by kernel_rfl
theorem bCe (a:Int):Tryz.prog.built 179 [(0,i6 a)]=some [i6 a].toArray:=by kernel_rfl
theorem aSn (a b c:Int):Tryz.prog.built 181 [(0,i6 a),(1,i6 b),(2,i6 c)]=some [i6 a,i6 b,i6 c].toArray:=by kernel_rfl
theorem aIe (a b c d e:Int):Tryz.prog.built 183 [(0,i6 a),(1,i6 b),(2,i6 c),(3,i6 d),(4,i6 e)]=some [i6 a,i6 b,i6 c,i6 d,i6 e].toArray:=by kernel_rfl
theorem aVn (a b c:Int):Tryz.prog.built 186 [(0,i6 a),(1,i6 b),(2,i6 c)]=some [i6 a,i6 b,i6 c,.slice none 0 0].toArray:=by kernel_rfl
theorem bt188_0 (a:Int):Tryz.prog.built 188 [(0,i6 a)]=some [i6 a].toArray:=by kernel_rfl
theorem bt190_0 (a:Int):Tryz.prog.built 190 [(0,i6 a)]=some [i6 a].toArray:=by kernel_rfl
theorem bt193_0 (a0T:TypeId)(a:Value):Tryz.prog.built 193 [(0,.iface a0T a)]=some [.iface a0T a].toArray:=by kernel_rfl
theorem bt196_0_1 (a:Option Addr)(b c:Nat)(d:Bool):Tryz.prog.built 196 [(0,.slice a b c),(1,vb d)]=some [.slice a b c,vb d].toArray:=by kernel_rfl
theorem aBe (a0T:TypeId)(a:Value)(b c:Int):Tryz.prog.built 200 [(0,.iface a0T a),(1,i6 b),(2,i6 c)]=some [.iface a0T a,i6 b,i6 c,.slice none 0 0,i6 0,i6 0,i6 0].toArray:=by kernel_rfl
theorem bt203_0_1 (a0T:TypeId)(a:Value)(a1T:TypeId)(b:Value):Tryz.prog.built 203 [(0,.iface a0T a),(1,.iface a1T b)]=some [.iface a0T a,.iface a1T b,i6 0,vb false].toArray:=by kernel_rfl
theorem bt206_0 (a0T:TypeId)(a:Value):Tryz.prog.built 206 [(0,.iface a0T a)]=some [.iface a0T a,i6 0,vb false].toArray:=by kernel_rfl
theorem bt215_0 (a:Bool):Tryz.prog.built 215 [(0,vb a)]=some [vb a,vb false,vb false,vb false,vb false,i6 0,i6 0].toArray:=by kernel_rfl
theorem aTx (a b c:Bool):Tryz.prog.built 215 [(0,vb a),(1,vb b),(2,vb c)]=some [vb a,vb b,vb c,vb false,vb false,i6 0,i6 0].toArray:=by kernel_rfl
theorem aTs (a b c:Bool):Tryz.prog.built 215 [(0,vb a),(2,vb b),(3,vb c)]=some [vb a,vb false,vb b,vb c,vb false,i6 0,i6 0].toArray:=by kernel_rfl
theorem aTu (a b c:Bool):Tryz.prog.built 215 [(0,vb a),(3,vb b),(4,vb c)]=some [vb a,vb false,vb false,vb b,vb c,i6 0,i6 0].toArray:=by kernel_rfl
theorem aMq (a b:Bool)(c d:Int):Tryz.prog.built 215 [(3,vb a),(4,vb b),(5,i6 c),(6,i6 d)]=some [vb false,vb false,vb false,vb a,vb b,i6 c,i6 d].toArray:=by kernel_rfl
theorem aTk (a:Bool)(b c:Int):Tryz.prog.built 215 [(4,vb a),(5,i6 b),(6,i6 c)]=some [vb false,vb false,vb false,vb false,vb a,i6 b,i6 c].toArray:=by kernel_rfl
theorem aGj (a b:Int):Tryz.prog.built 215 [(5,i6 a),(6,i6 b)]=some [vb false,vb false,vb false,vb false,vb false,i6 a,i6 b].toArray:=by kernel_rfl
theorem aOl (a b:Int):Tryz.prog.built 235 [(0,i6 a),(1,i6 b)]=some [i6 a,i6 b].toArray:=by kernel_rfl
abbrev gV (b:Nat):Value:= .pointer (some ⟨b,0,none⟩)
def FAt (t i m:Nat):Prop:= ∀{ρ:Env}{w:World}{d:Option Tmp}{x:Operand}{ty:TypeId}{pos:String}{af:Array Edge}{g:Option (Nat×Bool)}{b o:Nat} (_:ev ρ x= .pointer (some ⟨b,o,none⟩)),Do Tryz.prog ⟨d,.fieldAddr t x i,ty,pos,af,g⟩ ρ w (.pointer (some ⟨b,o+m,none⟩)) w
theorem faO {t i m:Nat}(n:Nat)(h:aLd Tryz.prog t i=some (m,some n):=by kernel_rfl)(hn:n≠0:=by decide):FAt t i m:=λhx=>aNd h hn hx
theorem aRp:FAt 24 0 0:=faO 1
theorem fa24_1:FAt 24 1 1:=faO 1
theorem fa24_2:FAt 24 2 2:=faO 1
theorem tH:FAt 24 3 3:=faO 1
theorem uS:FAt 24 4 4:=faO 1
theorem vZ:FAt 24 5 5:=faO 1
theorem bG:FAt 29 0 0:=faO 1
theorem rH:FAt 29 1 1:=faO 1
theorem aT:FAt 29 2 2:=faO 1
theorem aJr:FAt 46 0 0:=faO 1
theorem fa58_0:FAt 58 0 0:=faO 1
theorem aQx:FAt 58 1 1:=faO 1
theorem aJy:FAt 58 2 2:=faO 1
theorem wF:FAt 58 3 3:=faO 1
theorem fa68_0:FAt 68 0 0:=faO 1
theorem fa68_2:FAt 68 2 2:=faO 1
theorem fa68_4:FAt 68 4 4:=faO 1
theorem aRe:FAt 80 0 0:=faO 1
theorem pG:FAt 80 1 1:=faO 1
theorem wC:FAt 82 0 0:=faO 1
theorem aHc:FAt 82 1 1:=faO 2
theorem aPm:FAt 82 2 3:=faO 1
theorem aC:FAt 88 0 0:=faO 1
theorem kL:FAt 88 1 1:=faO 1
theorem aBu:FAt 88 2 2:=faO 1
theorem aBl:FAt 88 3 3:=faO 1
theorem pK:FAt 88 4 4:=faO 1
theorem jL:FAt 88 5 5:=faO 1
theorem kC:FAt 88 6 6:=faO 1
theorem rM:FAt 92 0 0:=faO 7
theorem aAr:FAt 92 1 7:=faO 1
theorem fa92_2:FAt 92 2 8:=faO 1
theorem jM:FAt 92 3 9:=faO 1
theorem fa92_4:FAt 92 4 10:=faO 1
theorem aBy:FAt 92 5 11:=faO 1
theorem aAa:FAt 92 6 12:=faO 1
theorem aDq:FAt 92 7 13:=faO 1
theorem aEc:FAt 92 8 14:=faO 1
theorem aKf:FAt 92 9 15:=faO 1
theorem nY:FAt 92 10 16:=faO 1
theorem qK:FAt 92 11 17:=faO 1
theorem aDk:FAt 95 0 0:=faO 3
theorem aXl:FAt 95 1 3:=faO 1
theorem aWx:FAt 95 2 4:=faO 1
theorem fa95_3:FAt 95 3 5:=faO 1
theorem aGb:FAt 95 4 6:=faO 1
theorem aGe:FAt 95 5 7:=faO 1
theorem sZ:FAt 95 6 8:=faO 1
theorem aXy:FAt 95 7 9:=faO 1
theorem aZc:FAt 95 8 10:=faO 1
theorem aRf:FAt 95 9 11:=faO 1
theorem aIy:FAt 103 0 0:=faO 1
theorem aIl:FAt 103 1 1:=faO 1
theorem vN:FAt 103 2 2:=faO 7
theorem aAm:FAt 109 0 0:=faO 1
theorem vO:FAt 109 1 1:=faO 7
theorem bAq:FAt 120 0 0:=faO 1
theorem aIk:FAt 120 2 2:=faO 1
theorem aPs:FAt 120 3 3:=faO 1
theorem aEt:FAt 120 4 4:=faO 1
theorem sD:FAt 126 0 0:=faO 1
theorem aCl:FAt 126 1 1:=faO 1
theorem aCd:FAt 126 2 2:=faO 1
theorem jV:FAt 130 0 0:=faO 1
theorem vT:FAt 130 1 1:=faO 1
theorem aFt:FAt 148 0 0:=faO 1
theorem aIs:FAt 148 1 1:=faO 1
theorem fa148_2:FAt 148 2 2:=faO 1
theorem bAs:FAt 148 3 3:=faO 1
theorem fa154_0:FAt 154 0 0:=faO 1
theorem fa154_1:FAt 154 1 1:=faO 1
theorem fa154_2:FAt 154 2 2:=faO 1
theorem aIj:FAt 157 0 0:=faO 1
theorem aRv:FAt 157 1 1:=faO 1
theorem aIh:FAt 157 2 2:=faO 1
theorem fa179_0:FAt 179 0 0:=faO 1
theorem fa181_0:FAt 181 0 0:=faO 1
theorem fa181_1:FAt 181 1 1:=faO 1
theorem fa181_2:FAt 181 2 2:=faO 1
theorem fa183_0:FAt 183 0 0:=faO 1
theorem fa183_1:FAt 183 1 1:=faO 1
theorem fa183_2:FAt 183 2 2:=faO 1
theorem fa183_3:FAt 183 3 3:=faO 1
theorem fa183_4:FAt 183 4 4:=faO 1
theorem fa186_0:FAt 186 0 0:=faO 1
theorem fa186_1:FAt 186 1 1:=faO 1
theorem bCf:FAt 186 2 2:=faO 1
theorem aZq:FAt 186 3 3:=faO 1
theorem fa188_0:FAt 188 0 0:=faO 1
theorem fa190_0:FAt 190 0 0:=faO 1
theorem fa193_0:FAt 193 0 0:=faO 1
theorem fa196_0:FAt 196 0 0:=faO 1
theorem fa196_1:FAt 196 1 1:=faO 1
theorem fa200_0:FAt 200 0 0:=faO 1
theorem bCc:FAt 200 1 1:=faO 1
theorem bAl:FAt 200 2 2:=faO 1
theorem aCo:FAt 200 3 3:=faO 1
theorem aEp:FAt 200 4 4:=faO 3
theorem fa203_0:FAt 203 0 0:=faO 1
theorem fa203_1:FAt 203 1 1:=faO 1
theorem aPo:FAt 203 2 2:=faO 1
theorem fa203_3:FAt 203 3 3:=faO 1
theorem fa206_0:FAt 206 0 0:=faO 1
theorem aRi:FAt 206 1 1:=faO 1
theorem fa206_2:FAt 206 2 2:=faO 1
theorem bAp:FAt 215 0 0:=faO 1
theorem bAn:FAt 215 1 1:=faO 1
theorem bBy:FAt 215 2 2:=faO 1
theorem aZo:FAt 215 3 3:=faO 1
theorem bAm:FAt 215 4 4:=faO 1
theorem fa215_5:FAt 215 5 5:=faO 1
theorem fa215_6:FAt 215 6 6:=faO 1
theorem fa235_0:FAt 235 0 0:=faO 1
theorem aIf:FAt 235 1 1:=faO 1
abbrev fQ:=f1 Rp.str
abbrev dE:=f1 aFy
abbrev dJ:=f1 dP
abbrev dM:=f1 aBm
abbrev bV:=f1 Rp.bool
abbrev kH:=f1 (Rp.int .i64)
abbrev kR:=f1 aK
abbrev jX:=f1 aN
abbrev aEa:=f1 dQ
abbrev fV:=Rt.row (Rt.of (Rp.int .i64)) 3 []
abbrev dX:=Rt.row dL 92 []
abbrev sO:=Rt.row vJ 154 []
abbrev aEd:=Rt.row (Rt.of fK) 235 []
abbrev tN:=Rt.row bF 151 []
abbrev rw_6:=Rt.row (Rt.of aK) 130 []
abbrev rw_7:=Rt.row (Rt.of (Rp.int .i8)) 213 []
section
variable {O S:List Nat}{v w:World}{a b c d e f g i j k l m n o p q r s t u x y z A B C D E F G H I J K L M:Th}
abbrev hh (p:Prop):Prop:=p->p
theorem un1:hh (Hd O v w S [a]):=id
theorem un2:hh (Hd O v w S [a,b]):=id
theorem un3:hh (Hd O v w S [a,b,c]):=id
theorem un4:hh (Hd O v w S [a,b,c,d]):=id
theorem un5:hh (Hd O v w S [a,b,c,d,e]):=id
theorem un6:hh (Hd O v w S [a,b,c,d,e,f]):=id
theorem un7:hh (Hd O v w S [a,b,c,d,e,f,g]):=id
theorem un8:hh (Hd O v w S [a,b,c,d,e,f,g,i]):=id
theorem un9:hh (Hd O v w S [a,b,c,d,e,f,g,i,j]):=id
theorem aCx:hh (Hd O v w S [a,b,c,d,e,f,g,i,j,k]):=id
theorem nM:hh (Hd O v w S [a,b,c,d,e,f,g,i,j,k,l]):=id
theorem bU:hh (Hd O v w S [a,b,c,d,e,f,g,i,j,k,l,m]):=id
theorem dW:hh (Hd O v w S [a,b,c,d,e,f,g,i,j,k,l,m,n]):=id
theorem aY:hh (Hd O v w S [a,b,c,d,e,f,g,i,j,k,l,m,n,o]):=id
theorem uU:hh (Hd O v w S [a,b,c,d,e,f,g,i,j,k,l,m,n,o,p]):=id
theorem qC:hh (Hd O v w S [a,b,c,d,e,f,g,i,j,k,l,m,n,o,p,q]):=id
theorem bP:hh (Hd O v w S [a,b,c,d,e,f,g,i,j,k,l,m,n,o,p,q,r]):=id
theorem qX:hh (Hd O v w S [a,b,c,d,e,f,g,i,j,k,l,m,n,o,p,q,r,s]):=id
theorem aMu:hh (Hd O v w S [a,b,c,d,e,f,g,i,j,k,l,m,n,o,p,q,r,s,t]):=id
theorem un20:hh (Hd O v w S [a,b,c,d,e,f,g,i,j,k,l,m,n,o,p,q,r,s,t,u]):=id
theorem un21:hh (Hd O v w S [a,b,c,d,e,f,g,i,j,k,l,m,n,o,p,q,r,s,t,u,x]):=id
theorem un22:hh (Hd O v w S [a,b,c,d,e,f,g,i,j,k,l,m,n,o,p,q,r,s,t,u,x,y]):=id
theorem un23:hh (Hd O v w S [a,b,c,d,e,f,g,i,j,k,l,m,n,o,p,q,r,s,t,u,x,y,z]):=id
theorem un24:hh (Hd O v w S [a,b,c,d,e,f,g,i,j,k,l,m,n,o,p,q,r,s,t,u,x,y,z,A]):=id
theorem un25:hh (Hd O v w S [a,b,c,d,e,f,g,i,j,k,l,m,n,o,p,q,r,s,t,u,x,y,z,A,B]):=id
theorem un26:hh (Hd O v w S [a,b,c,d,e,f,g,i,j,k,l,m,n,o,p,q,r,s,t,u,x,y,z,A,B,C]):=id
theorem un27:hh (Hd O v w S [a,b,c,d,e,f,g,i,j,k,l,m,n,o,p,q,r,s,t,u,x,y,z,A,B,C,D]):=id
theorem un36:hh (Hd O v w S [a,b,c,d,e,f,g,i,j,k,l,m,n,o,p,q,r,s,t,u,x,y,z,A,B,C,D,E,F,G,H,I,J,K,L,M]):=id
end
section
variable {P:Program}{N:Nat}{ops:Array Oper}{Q:Exit->Env->World->Prop}{rest:List Oper}{ρ:Env}{w:World}{d f:Nat}{t u ty tz:TypeId}{x y:Operand}{pos qos:String}{af bf:Array Edge}{g h:Option (Nat×Bool)}{b o m i:Nat}
theorem nf (hx:ev ρ x= .pointer (some ⟨b,o,none⟩))(fa:FAt t i m)(n:RL Tryz.prog N ops Q rest (upd (upd ρ d (.pointer (some ⟨b,o,none⟩))) f (.pointer (some ⟨b,o+m,none⟩))) w)(hy:ev (upd ρ d (.pointer (some ⟨b,o,none⟩))) y= .pointer (some ⟨b,o,none⟩):=by exact rfl)(hw:fU N ops ρ ⟨some d,.nilCheck x,ty,pos,af,g⟩=true:=by exact rfl)(hd:Nat.blt d N=true:=by exact rfl)(hv:fU N ops (upd ρ d (.pointer (some ⟨b,o,none⟩))) ⟨some f,.fieldAddr t y i,tz,qos,bf,h⟩=true:=by exact rfl)(hf:Nat.blt f N=true:=by exact rfl):RL Tryz.prog N ops Q (⟨some d,.nilCheck x,ty,pos,af,g⟩::⟨some f,.fieldAddr t y i,tz,qos,bf,h⟩::rest) ρ w:=zQ (aW hx) (zQ (fa hy) n hv hf) hw hd
theorem Xn {I:World->Prop}{κ:List MxM.Kd}{K:MxM.Mm->Env->World->Prop}{k q:Nat}{M:MxM.Mm}{σ:List Nat}(hx:ev ρ x= .pointer (some ⟨b,o,none⟩))(fa:FAt t i m)(n:MxM.XL Tryz.prog I N ops κ K M σ rest (upd (upd ρ d (.pointer (some ⟨b,o,none⟩))) f (.pointer (some ⟨b,o+m,none⟩))) w)(hy:ev (upd ρ d (.pointer (some ⟨b,o,none⟩))) y= .pointer (some ⟨b,o,none⟩):=by exact rfl)(hk:MxM.kdOf κ k= .pure:=by exact rfl)(hq:MxM.kdOf κ q= .pure:=by exact rfl)(hw:fU N ops ρ ⟨some d,.nilCheck x,ty,pos,af,g⟩=true:=by exact rfl)(hd:Nat.blt d N=true:=by exact rfl)(hv:fU N ops (upd ρ d (.pointer (some ⟨b,o,none⟩))) ⟨some f,.fieldAddr t y i,tz,qos,bf,h⟩=true:=by exact rfl)(hf:Nat.blt f N=true:=by exact rfl):MxM.XL Tryz.prog I N ops κ K M (k::q::σ) (⟨some d,.nilCheck x,ty,pos,af,g⟩::⟨some f,.fieldAddr t y i,tz,qos,bf,h⟩::rest) ρ w:=XQ (aW hx) (XQ (fa hy) n hq hv hf) hk hw hd
theorem nJ {I:World->Prop}{κ:List MxM.Kd}{K:MxM.Mm->Env->World->Prop}{M:MxM.Mm}{σ O S:List Nat}{v u:World}{l r:List Th}(G:Hd O v u S r)(H:Hd O u w (bks r) l)(n: ∀a,Hd O v a S l->K M ρ a):MxM.XL P I N ops κ K M σ [] ρ w:=MxM.xH λa s=>n a (G.rj (H.Z s))
theorem RH {O S bs:List Nat}{v:World}{l:List Th}{α:Type}{R:Go.Lf.Rt α}{e:TypeId}{D:Hol}{c:List Value}{xl:List α}{j:Int}{a:α}{z y:Value}{n p:Nat}(f:aDl P t)(H:Hd O v w S l)(i q:Nat)(hi:l[i]? =some (.tr (Rt.row R e ((j.toNat,c)::D)) [z] bs xl))(hv:z= .slice (some ⟨b,o,none⟩) n p)(hx:at' xl j=some a)(hq:c[q]? =some y)(k:RL P N ops Q rest (upd ρ d y) w)(he:ev ρ x= .pointer (some ⟨b,o+j.toNat*R.sz+q,none⟩):=by exact rfl)(hw:fU N ops ρ ⟨some d,.load t x,ty,pos,af,g⟩=true:=by exact rfl)(hd:Nat.blt d N=true:=by exact rfl):RL P N ops Q (⟨some d,.load t x,ty,pos,af,g⟩::rest) ρ w:=zQ (yB f he (Cells.get (H.holeW i hi hv hx Z aX) hq)) k hw hd
theorem XH {h:World}{r:List Nat}{κ:List MxM.Kd}{K:MxM.Mm->Env->World->Prop}{k:Nat}{M:MxM.Mm}{σ O S bs:List Nat}{v:World}{l:List Th}{α:Type}{R:Go.Lf.Rt α}{e:TypeId}{D:Hol}{c:List Value}{xl:List α}{j:Int}{a:α}{z y:Value}{n p:Nat}(u:aDl P t)(H:Hd O v w S l)(i q:Nat)(hi:l[i]? =some (.tr (Rt.row R e ((j.toNat,c)::D)) [z] bs xl))(hv:z= .slice (some ⟨b,o,none⟩) n p)(hx:at' xl j=some a)(hq:c[q]? =some y)(m:MxM.XL P (λf=>Only r h f) N ops κ K M σ rest (upd ρ d y) w)(he:ev ρ x= .pointer (some ⟨b,o+j.toNat*R.sz+q,none⟩):=by exact rfl)(hk:MxM.kdOf κ k= .read:=by exact rfl)(hw:fU N ops ρ ⟨some d,.load t x,ty,pos,af,g⟩=true:=by exact rfl)(hd:Nat.blt d N=true:=by exact rfl):MxM.XL P (λf=>Only r h f) N ops κ K M (k::σ) (⟨some d,.load t x,ty,pos,af,g⟩::rest) ρ w:=MxM.yS oS hk hw hd (λ_ s=>yB u he (Cells.get ((H.Z s).holeW i hi hv hx rfl aX) hq)) m
end
theorem _root_.Go.Lf.Hd.im {O S:List Nat}{v w:World}{l:List Th}(H:Hd O v w S l)(i:Nat){it:Th}(h:l[i]? =some it):it.holds (frees O l) w:=H.V h
theorem _root_.Go.Lf.Hm.im {n:Nat}{A:Nat->Prop}{O S:List Nat}{v w:World}{l:List Th}(H:Hm n A O v w S l)(i:Nat){it:Th}(h:l[i]? =some it):it.holds (frm O l v) w:=H.V h
theorem p1z {P:Program}{R:Ending->World->Prop}{ρ:Env}{w:World}{rs:Array ResultVar}{t:Tmp}{v:Value}(h:R (.returned v) w)(hr:rs= #[.tmp t]:=by exact rfl)(a:ρ t=v:=by exact rfl):aDd P rs R .ret ρ w:=aKo hr a h
theorem en4:En 4:=fH Tryz.func4
theorem en7:En 7:=fH Tryz.func7
theorem en11:En 11:=fH Tryz.func11
theorem en13:En 13:=fH Tryz.func13
theorem en18:En 18:=fH Tryz.func18
theorem en20:En 20:=fH Tryz.func20
theorem en21:En 21:=fH Tryz.func21
theorem en22:En 22:=fH Tryz.func22
theorem en26:En 26:=fH Tryz.func26
theorem en31:En 31:=fH Tryz.func31
theorem en33:En 33:=fH Tryz.func33
theorem en34:En 34:=fH Tryz.func34
theorem en35:En 35:=fH Tryz.func35
theorem en36:En 36:=fH Tryz.func36
theorem en37:En 37:=fH Tryz.func37
theorem en39:En 39:=fH Tryz.func39
theorem en40:En 40:=fH Tryz.func40
theorem en41:En 41:=fH Tryz.func41
theorem en44:En 44:=fH Tryz.func44
theorem en45:En 45:=fH Tryz.func45
theorem en47:En 47:=fH Tryz.func47
theorem en48:En 48:=fH Tryz.func48
theorem aYn:En 51:=fH Tryz.func51
theorem aYe:En 54:=fH Tryz.func54
theorem en55:En 55:=fH Tryz.func55
theorem en56:En 56:=fH Tryz.func56
theorem en57:En 57:=fH Tryz.func57
theorem en58:En 58:=fH Tryz.func58
theorem en65:En 65:=fH Tryz.func65
theorem en67:En 67:=fH Tryz.func67
theorem en68:En 68:=fH Tryz.func68
theorem en71:En 71:=fH Tryz.func71
theorem en73:En 73:=fH Tryz.func73
theorem aWd:En 80:=fH Tryz.func80
theorem en83:En 83:=fH Tryz.func83
theorem aVa:En 84:=fH Tryz.func84
theorem en86:En 86:=fH Tryz.func86
theorem en92:En 92:=fH Tryz.func92
theorem en93:En 93:=fH Tryz.func93
theorem en94:En 94:=fH Tryz.func94
theorem en95:En 95:=fH Tryz.func95
theorem en98:En 98:=fH Tryz.func98
theorem en99:En 99:=fH Tryz.func99
theorem en102:En 102:=fH Tryz.func102
theorem en106:En 106:=fH Tryz.func106
theorem aBq:En 107:=fH Tryz.func107
theorem en112:En 112:=fH Tryz.func112
theorem en119:En 119:=fH Tryz.func119
theorem bBa:En 125:=fH Tryz.func125
theorem en126:En 126:=fH Tryz.func126
theorem en127:En 127:=fH Tryz.func127
theorem aJk:En 128:=fH Tryz.func128
theorem bCa:En 132:=fH Tryz.func132
theorem aZt:En 134:=fH Tryz.func134
theorem bBu:En 147:=fH Tryz.func147
theorem en148:En 148:=fH Tryz.func148
theorem en166:En 166:=fH Tryz.func166
theorem en193:En 193:=fH Tryz.func193
theorem en195:En 195:=fH Tryz.func195
theorem en196:En 196:=fH Tryz.func196
theorem en197:En 197:=fH Tryz.func197
theorem aUi:En 198:=fH Tryz.func198
theorem en200:En 200:=fH Tryz.func200
theorem en203:En 203:=fH Tryz.func203
theorem en205:En 205:=fH Tryz.func205
theorem en207:En 207:=fH Tryz.func207
theorem en209:En 209:=fH Tryz.func209
theorem en212:En 212:=fH Tryz.func212
theorem en214:En 214:=fH Tryz.func214
theorem en216:En 216:=fH Tryz.func216
theorem en218:En 218:=fH Tryz.func218
theorem mixed:Tryz.prog.follows .mixedOrders=true:=by kernel_rfl
theorem aYb {b c d:Int}{r:Bool}(a:Fan b c d=some r)(H:Hd O w w S []):
  Rt 80 [i6 b,i6 c,i6 d] (vb r) w O S []:=by
 refine CW 15 Tryz.func80 ?_;refine SR<|zB (vb false)<|RM<|bE a λf a h=>sJ H (rg [6,9]) [(6,vb f)] ?_ ?_;refine zD<|zC (i6 b)<|zC (i6 c)<|wK a λi a=>RJ a (λa=>?_) (λa=>?_);refine zC (i6 b)<|zC (i6 d)<|aBc a λe a=>pt (vb e)<|zB (vb e) ?_;cases a;exact jn<|mt () (H.U []);refine zK<|zK<|zK<|pf (vb false)<|zB (vb false) ?_;cases a;exact jn<|mt () (H.U []);rintro _ ρ j H;have a:=h;cases a;exact zI<|p1z ⟨rfl,H.U []⟩
theorem Felw {b:Str}{r:Bool}(a:Fel b=some r)(H:Hd O w w S []):
  Rt 81 [sb b] (vb r) w O S []:=by
 refine CW 21 Tryz.func81 ?_;refine SR<|zB (vb false)<|RM<|SQ<|SR<|zC (sb b)<|RM<|zJ<|bE a λc a d=>sJ H (rg [4,17]) [(4,vb c)] ?_ ?_;refine SR<|RLb a (xU (s1:=b) (s2:=[112,104,97,115,101]) Z Z) λe a=>zB (vb e)<|RM<|WJ a ?_ ?_<;>intro a;cases a;exact js<|mt () (H.U []);refine SR<|RLb a (xU (s1:=b) (s2:=[109,111,118,101]) Z Z) λf a=>zB (vb f)<|RM<|WJ a ?_ ?_<;>intro a;cases a;exact js<|mt () (H.U []);refine SR<|RLb a (xU (s1:=b) (s2:=[114,117,108,101]) Z Z) λh a=>zB (vb h)<|RM<|WJ a ?_ ?_<;>intro a;cases a;exact js<|mt () (H.U []);refine SR<|RLb a (xU (s1:=b) (s2:=[105,102]) Z Z) λi a=>zB (vb i)<|RM<|WJ a ?_ ?_<;>intro a;cases a;exact js<|mt () (H.U []);refine SR<|RLb a (xU (s1:=b) (s2:=[111,114]) Z Z) λj a=>zB (vb j)<|RM<|WJ a ?_ ?_<;>intro a;cases a;exact js<|mt () (H.U []);refine SR<|RLb a (xU (s1:=b) (s2:=[97,110,100]) Z Z) λk a=>zB (vb k)<|RM<|WJ a ?_ ?_<;>intro a;cases a;exact js<|mt () (H.U []);refine SR<|RLb a (xU (s1:=b) (s2:=[116,114,117,101]) Z Z) λl a=>zB (vb l)<|RM<|WJ a ?_ ?_<;>intro a;cases a;exact js<|mt () (H.U []);refine SR<|RLb a (xU (s1:=b) (s2:=[102,97,108,115,101]) Z Z) λn a=>zB (vb n)<|RM<|WJ a ?_ ?_<;>intro a;cases a;exact js<|mt () (H.U []);refine SR<|RLb a (xU (s1:=b) (s2:=[115,116,101,97,100,121]) Z Z) λo a=>zB (vb o)<|RM<|WJ a ?_ ?_<;>intro a;cases a
 exact js<|mt () (H.U []);refine SR<|RLb a (xU (s1:=b) (s2:=[110,111,116]) Z Z) λp a=>zB (vb p)<|RM<|WJ a ?_ ?_<;>intro a;cases a;exact js<|mt () (H.U []);refine SR<|RLb a (xU (s1:=b) (s2:=[102,111,114]) Z Z) λq a=>zB (vb q)<|RM<|WJ a ?_ ?_<;>intro a;cases a;exact js<|mt () (H.U []);refine SR<|RLb a (xU (s1:=b) (s2:=[119,105,116,104,105,110]) Z Z) λs a=>zB (vb s)<|RM<|WJ a ?_ ?_<;>intro a;cases a;exact js<|mt () (H.U []);refine SR<|RLb a (xU (s1:=b) (s2:=[99,111,117,110,116]) Z Z) λt a=>zB (vb t)<|RM<|WJ a ?_ ?_<;>intro a;cases a;exact js<|mt () (H.U []);refine SR<|RLb a (xU (s1:=b) (s2:=[111,102]) Z Z) λu a=>zB (vb u)<|RM<|WJ a ?_ ?_<;>intro a;cases a;exact js<|mt () (H.U []);refine SR<|RLb a (xU (s1:=b) (s2:=[114,105,115,101,115]) Z Z) λv a=>zB (vb v)<|RM<|WJ a ?_ ?_<;>intro a;cases a;exact js<|mt () (H.U []);refine zD<|RLb a (xU (s1:=b) (s2:=[115,105,110,99,101]) Z Z) λx a=>zB (vb x) ?_;cases a;exact jn<|mt () (H.U []);rintro _ ρ y H;have a:=d;refine WJ a (λa=>SR<|zB (vb true)<|RM ?_) λa=>?_;cases a;exact zI<|zN<|zH<|p1z ⟨Z,H.U []⟩;refine yK<|zO<|zF<|KN<|SR<|zB (vb false)<|RM ?_;cases a;exact zI<|p1z ⟨Z,H.U []⟩
theorem Fe7w {b:Int}{r:Bool}(a:Fe7 b=some r)(H:Hd O w w S []):
  Rt 82 [.int .u8 b] (vb r) w O S []:=by
 refine CW 21 Tryz.func82 ?_;refine SR<|zB (vb false)<|RM<|bE a λe a f=>sJ H (rg [2,19]) [(2,vb e)] ?_ ?_;refine zD<|zC (.int .u8 b)<|wK a λn a=>bE a λh a i=>xI 4 [5,6,7,8] [(8,vb h)] (λwl=>Hd O w wl S []) ?_ ?_;refine RJ a (λa=>zC (.int .u8 b)<|aBc a λj a=>pt (vb j) ?_) λa=>?_;cases a;exact jn<|meet ⟨(yC Z yR),H.U []⟩;refine zK<|zK<|pf (vb false) ?_;cases a;exact jn<|meet ⟨(yC Z yR),H.U []⟩;rintro ρ o H;have a:=i;refine bE a λk a l=>xI 8 [9,10,11,12,13,14,15,16] [(16,vb k)] (λwl=>Hd O w wl S []) ?_ ?_;refine RJ a (λa=>zK<|zK<|zK<|zK<|zK<|zK<|pt (vb true) ?_) λa=>?_;cases a;exact jn<|meet ⟨(yC Z yR),H.U []⟩;refine zC (.int .u8 b)<|wK a λp a=>RJ a (λa=>zC (.int .u8 b)<|aBc a λc a=>pt (vb c)<|pf (vb c) ?_) λa=>?_;cases a;exact jn<|meet ⟨(yC Z yR),H.U []⟩;refine zK<|zK<|pf (vb false)<|pf (vb false) ?_;cases a;exact jn<|meet ⟨(yC Z yR),H.U []⟩;rintro ρ q H;have a:=l;refine RJ a (λa=>zK<|zK<|pt (vb true)<|zB (vb true) ?_) λa=>?_;cases a;exact jn<|mt () (H.U []);refine zC (.int .u8 b)<|fG a λd a=>pf (vb d)<|zB (vb d) ?_;cases a;exact jn<|mt () (H.U []);rintro _ ρ s H;have a:=f;cases a;exact zI<|p1z ⟨Z,H.U []⟩
theorem Favw {b:Str}{r:Bool}(a:Fav b=some r)(H:Hd O w w S []):
  Rt 47 [sb b] (vb r) w O S []:=by
 refine CW 33 Tryz.func47 ?_;refine SR<|zB (vb false)<|RM<|SQ<|bE a λd a e=>sJ H (rg [4,18]) [(21,vb d)] ?_ ?_;refine zD<|zC (sb b)<|RLi a (aIv (s1:=b) u9 Z) λA a=>bE a λB f a=>RC aWd (aYb f (H.W [] [])) H λC H=>bC a λD a=>bE a λh a i=>xI 5 [8,9,10,11,12] [(12,vb h)] (λwl=>Hd O w wl S []) ?_ ?_;refine RJ a (λa=>zK<|zK<|zK<|pt (vb true) ?_) λa=>?_;cases a;exact jn<|meet ⟨(yC Z yR),H.U []⟩;refine zC (sb b)<|bE a λE j a=>zQ (aJg (s1:=b) (q:=0) u9 Z Z j)<|eF a λk a=>pf (vb k) ?_;cases a;exact jn<|meet ⟨(yC Z yR),H.U []⟩;rintro ρ F H;have a:=i;refine bE a λl a n=>xI 5 [13,14,15,16,17] [(17,vb l)] (λwl=>Hd O w wl S []) ?_ ?_;refine RJ a (λa=>zK<|zK<|zK<|pt (vb true) ?_) λa=>?_;cases a;exact jn<|meet ⟨(yC Z yR),H.U []⟩;refine zC (sb b)<|bE a λG o a=>zQ (aJg (s1:=b) (q:=0) u9 Z Z o)<|kW a λp a=>pf (vb p) ?_;cases a;exact jn<|meet ⟨(yC Z yR),H.U []⟩;rintro ρ I H;have a:=n;refine RJ a (λa=>zK<|zK<|pt (vb true) ?_) λa=>?_;cases a;exact jn<|mt () (H.U []);refine zC (sb b)<|bE a λs t a=>RC (fH Tryz.func81) (Felw t (H.W [] [])) H λJ H=>pf (vb s) ?_;cases a;exact jn<|mt () (H.U []);rintro _ ρ K H;have a:=e;refine WJ a (λa=>SR<|zB (vb false)<|RM ?_) λa=>?_;cases a;exact zI<|zH<|p1z ⟨Z,H.U []⟩;refine WZ<|jk a H (rg [2,2,22,11]) (λx (y:Unit)=>[]) (λx y=>[]) [] (λL a=>?_) ?_;refine SR<|zC (sb b)<|RLi a (aIv (s1:=b) u9 Z) λM a=>zC (i6 0)<|RM<|zJ<|lo a H (rg [2,2,24,9]) (λx (y:Unit)=>[(24,i6 x)]) (λx y=>[]) [] () (H.U []) ?_
 clear H a;rintro N c _ ρ P H a;refine SR<|eF a λQ a=>RM<|SQ<|WJ a (λa=>WZ<|SQ<|zJ<|SR<|zC (i6 c)<|zB (i6 c)<|RM<|SR<|zC (sb b)<|zC (i6 c)<|bE a λ_ u a=>zQ (aJg (s1:=b) (q:=c) u9 Z Z u)<|bE a λT v a=>RC (fH Tryz.func82) (Fe7w v (H.W [] [])) H λU H=>bC a λV a=>RM<|WJ a (λa=>SR<|zB (vb false)<|RM ?_) λa=>?_) λa=>?_;cases a;exact zI<|zN<|zH<|zH<|zN<|zH<|p1z ⟨Z,H.U []⟩;exact yK<|zO<|zF<|KN<|zD<|fZ a λz a=>zC (i6 z)<|jn<|me a () (H.U []);exact zZ<|zT<|zT<|zW<|zF<|me a () (H.U []);rintro _ _ ρ X H a;refine SR<|zB (vb true)<|RM ?_;cases a;exact zI<|p1z ⟨Z,H.U []⟩
theorem Fb5w {a:Str}{r:Bool}(b:Fb5 a=some r)(H:Hd O w w S []):
  Rt 44 [sb a] (vb r) w O S []:=by
 refine CW 5 Tryz.func44 ?_;refine SR<|zB (vb false)<|RM<|SR<|zC (sb a)<|bE b λc d b=>RC en47 (Favw d (H.W [] [])) H λe H=>zB (vb c)<|RM ?_;cases b;exact zI<|p1z ⟨Z,H.U []⟩
theorem Fcaw {b c d:Int}{r:Bool}(a:Fca b c d=some r)(H:Hd O w w S []):
  Rt 45 [i6 b,i6 c,i6 d] (vb r) w O S []:=by
 refine CW 15 Tryz.func45 ?_;refine SR<|zB (vb false)<|RM<|bE a λf a h=>sJ H (rg [6,9]) [(6,vb f)] ?_ ?_;refine zD<|zC (i6 b)<|zC (i6 c)<|wK a λi a=>RJ a (λa=>zC (i6 b)<|zC (i6 d)<|aBc a λe a=>pt (vb e)<|zB (vb e) ?_) λa=>?_;cases a;exact jn<|mt () (H.U []);refine zK<|zK<|zK<|pf (vb false)<|zB (vb false) ?_;cases a;exact jn<|mt () (H.U []);rintro _ ρ j H;have a:=h;cases a;exact zI<|p1z ⟨Z,H.U []⟩
theorem Ff1w {a b:gW}{c d:Value}{e:Nat}{r:Bool}(f:Ff1 a b=some r)(H:Hd O w w S [.blk e [sb b.Name,i6 b.Series.Den,d,i6 b.Long] 82,aEa c a.Series.Samples,aEa d b.Series.Samples]):
  Rt 78 [.agg [sb a.Name,i6 a.Series.Den,c,i6 a.Long].toArray,gV e] (vb r) w O S [.blk e [sb b.Name,i6 b.Series.Den,d,i6 b.Long] 82]:=by
 refine CW 9 Tryz.func78 ?_;refine SR<|xb (yF (cs:=[sb a.Name,i6 a.Series.Den,c,i6 a.Long]) Z H) λi j H=>zB (vb false)<|RM<|SR<|zQ (wC Z)<|Ld eU H 3 0 Z Z<|zQ (wC Z)<|Ld eU H 0 0 Z Z<|RLb f (xU (s1:=a.Name) (s2:=b.Name) Z Z) λh f=>zB (vb h)<|RM ?_;cases f;exact zI<|p1z ⟨Z,H.U [0]⟩
theorem Fetw {h:List gW}{p1c0:gW}{c f:Value}{d:Nat}{r:Int}(a:Fet h p1c0=some r)(H:Hd O w w S [.blk d [sb p1c0.Name,i6 p1c0.Series.Den,f,i6 p1c0.Long] 82,jX c h,aEa f p1c0.Series.Samples]):
  Rt 110 [c,.func (.func 78) #[] #[gV d]] (i6 r) w O S [.blk d [sb p1c0.Name,i6 p1c0.Series.Den,f,i6 p1c0.Long] 82]:=by
 refine CW 19 Tryz.func110 ?_;refine SR<|zB (i6 0)<|RM<|jk a H (rg [4,15]) (λx (y:Unit)=>[]) (λx y=>[]) [0,2] (λA a=>?_) ?_;refine SR<|zC c<|ln a (H.im 1 Z) u22 λB a=>zC (i6 0)<|RM<|zJ<|lo a H (rg [4,2,8,11]) (λx (y:Unit)=>[(8,i6 x)]) (λx y=>[]) [0,2,1] () (H.U [0,2,1]) ?_;clear H a;rintro C b _ ρ D H a;have H:=un3 H;refine SR<|eF a λE a=>RM<|SQ<|WJ a (λa=>WZ<|SQ<|zJ<|SR<|zC (i6 b)<|zB (i6 b)<|RM<|SR<|zC (.func (.func 78) #[] #[gV d])<|zC c<|zC (i6 b)<|bE a λe i a=>?_) λa=>?_;obtain⟨k,l,F,G,n,o,p,q,s⟩:=yY (H.im 2 Z) i;obtain⟨j,rfl,t⟩:=xQ o;have H:=H.fzs [.at k (l+b.toNat*4) _,.sl dQ j e.Series.Samples] ⟨⟨p,q,s⟩,t,T1⟩;refine ix u22 tC n i<|zQ (yQ (zY (cs:=[sb e.Name,i6 e.Series.Den,j,i6 e.Long]) aUq Z tC Z (H.im 3 Z).2.2) Z)<|bE a λI u a=>xE Z Z (kQ (fH Tryz.func78) Z Z) (Ff1w u (H.W [0] [4,1])) ?_;rintro _ J ⟨rfl,v⟩;have H:=un5<|H.back [0] [4,1] Z v;refine⟨_,Z,?_⟩;refine RM<|WJ a (λa=>SR<|zC (i6 b)<|zB (i6 b)<|RM ?_) λa=>?_;cases a;exact zI<|zN<|zH<|zH<|zN<|zH<|p1z ⟨Z,H.U [4]⟩;exact yK<|zO<|zF<|KN<|zD<|fZ a λz a=>zC (i6 z)<|jn<|me a () (H.U [4,0,1]);exact zZ<|zT<|zT<|zW<|zF<|me a () (H.U [0,1]);rintro _ _ ρ K H a;have H:=un2 H;refine SR<|zB (i6 (-1))<|RM ?_;cases a;exact zI<|p1z ⟨Z,H.U [0]⟩
theorem Fe6w {e:List gW}{p1c0:gW}{c d:Value}{b:Nat}{r:Bool}(a:Fe6 e p1c0=some r)(H:Hd O w w S [.blk b [sb p1c0.Name,i6 p1c0.Series.Den,d,i6 p1c0.Long] 82,jX c e,aEa d p1c0.Series.Samples]):
  Rt 77 [c,.func (.func 78) #[] #[gV b]] (vb r) w O S [.blk b [sb p1c0.Name,i6 p1c0.Series.Den,d,i6 p1c0.Long] 82]:=by
 refine CW 9 Tryz.func77 ?_;refine SR<|zB (vb false)<|RM<|SR<|zC c<|zC (.func (.func 78) #[] #[gV b])<|bE a λj f a=>cAz (fH Tryz.func110) (Fetw f (H.W [0] [1,2])) λk h=>?_;have H:=un3<|H.back [0] [1,2] Z h;refine wK a λi a=>zB (vb i)<|RM ?_;cases a;exact zI<|p1z ⟨Z,H.U [2]⟩
theorem Fa9w {b c d:Int}{r:Bool}(a:Fa9 b c d=some r)(H:Hd O w w S []):
  Rt 132 [i6 b,i6 c,i6 d] (vb r) w O S []:=by
 refine CW 15 Tryz.func132 ?_;refine SR<|zB (vb false)<|RM<|bE a λf a h=>sJ H (rg [6,9]) [(6,vb f)] ?_ ?_;refine zD<|zC (i6 b)<|zC (i6 c)<|wK a λi a=>RJ a (λa=>zC (i6 b)<|zC (i6 d)<|aBc a λe a=>pt (vb e)<|zB (vb e) ?_) λa=>?_;cases a;exact jn<|mt () (H.U []);refine zK<|zK<|zK<|pf (vb false)<|zB (vb false) ?_;cases a;exact jn<|mt () (H.U []);rintro _ ρ j H;have a:=h;cases a;exact zI<|p1z ⟨Z,H.U []⟩
theorem Fd4w {f:Series}{h:Value}{r:Int×Int}(c:Fd4 f=some r)(H:Hd O w w S [aEa h f.Samples]):
  Rt 111 [.agg [i6 f.Den,h].toArray] (.tuple #[i6 r.1,i6 r.2]) w O S []:=by
 refine CW 67 Tryz.func111 ?_;refine SR<|xb (yF (cs:=[i6 f.Den,h]) Z H) λu _ H=>zB (i6 0)<|zB (i6 0)<|RM<|SQ<|SR<|zQ (aRe Z)<|Ld fA H 1 0 Z Z<|bE c λ_ z c=>RC bCa (Fa9w z (H.W [] [])) H λ_ H=>bC c λ_ c=>RM<|WJ c (λc=>SR<|zB (i6 (-1))<|zB (i6 9)<|RM ?_) λc=>?_;cases c;exact zI<|zH<|mV Z Z Z ⟨Z,H.U []⟩;refine WZ<|SQ<|SR<|zQ (pG Z)<|Ld vF H 1 1 Z Z<|ln c (H.im 0 Z) u78 λ_ c=>kW c λ_ c=>RM<|WJ c (λc=>SR<|zB (i6 (-1))<|zB (i6 3)<|RM ?_) λc=>?_;cases c;exact zI<|zH<|mV Z Z Z ⟨Z,H.U []⟩;refine WZ<|jk c H (rg [2,4,14,53]) (λx (y:Unit)=>[]) (λx y=>[]) [] (λ_ c=>?_) ?_;refine SR<|zQ (pG Z)<|Ld vF H 1 1 Z Z<|ln c (H.im 0 Z) u78 λ_ c=>zC (i6 0)<|RM<|zJ<|lo c H (rg [2,4,17,50]) (λx (y:Unit)=>[(17,i6 x)]) (λx y=>[]) [0,1] () (H.U [0,1]) ?_;clear H c;rintro _ d _ ρ _ H c;have H:=un2 H;refine SR<|eF c λ_ c=>RM<|SQ<|WJ c (λc=>WZ<|SQ<|zJ<|SR<|zC (i6 d)<|bE c λe l c=>?_) λc=>?_;obtain⟨n,o,a0,_,A,B,C,D,E⟩:=yY (H.im 0 Z) l;obtain rfl:=dY B;have H:=H.fz (.at n (o+d.toNat*3) _) ⟨C,D,E⟩;refine ix u78 bY A l<|zQ (yQ (zY (cs:=[i6 e.At,i6 e.N,i6 e.Mark]) qM Z bY Z (H.im 2 Z).2.2) Z)<|xb (yT vP H) λF a2 H=>zB (i6 d)<|xu (yG (vs:=[i6 e.At,i6 e.N,i6 e.Mark]) H 3 Z bY Z Z Z ⟨Z,Z,Z,T1⟩ Z) λa3 H=>RM<|zJ<|bE c λG c I=>jo H (rg [22,17]) (λ(g:Unit)=>[(22,vb G)]) (λg=>[]) [0,1,3] ?_ ?_
 refine zD<|zQ (sD Z)<|Ld fA H 3 0 Z Z<|bE c λa4 J c=>RC bCa (Fa9w J (H.W [] [])) H λa5 H=>bC c λ_ c=>bE c λK c L=>xI 6 [27,28,29,30,31,32] [(32,vb K)] (λwl=>Hd O w wl S [aEa h f.Samples,.blk u [i6 f.Den,h] 80,.fz (.at n (o+d.toNat*3) [i6 e.At,i6 e.N,i6 e.Mark]),.blk F [i6 e.At,i6 e.N,i6 e.Mark] 126]) ?_ ?_;refine RJ c (λc=>zK<|zK<|zK<|zK<|pt (vb true) ?_) λc=>?_;cases c;exact jn<|meet ⟨(yC Z yR),H.U [0,1,2,3]⟩;refine zQ (aCl Z)<|Ld fA H 3 1 Z Z<|bE c λ_ M c=>RC bCa (Fa9w M (H.W [] [])) H λ_ H=>bC c λP c=>pf (vb P) ?_;cases c;exact jn<|meet ⟨(yC Z yR),H.U [0,1,2,3]⟩;rintro ρ a9 H;have c:=L;refine RJ c (λc=>zK<|zK<|zK<|zK<|pt (vb true)<|zB (vb true) ?_) λc=>?_;cases c;exact jn<|mt () (H.U [0,1,3]);refine zQ (aCd Z)<|Ld fA H 3 2 Z Z<|bE c λ_ Q c=>RC bCa (Fa9w Q (H.W [] [])) H λ_ H=>bC c λp c=>pf (vb p)<|zB (vb p) ?_;cases c;exact jn<|mt () (H.U [0,1,3]);rintro _ ρ _ H;have H:=un3 H;have c:=I;refine WJ c (λc=>SR<|zC (i6 d)<|zB (i6 d)<|zB (i6 9)<|RM ?_) λc=>?_;cases c;exact zI<|zN<|zN<|zH<|zH<|zN<|zH<|mV Z Z Z ⟨Z,H.U []⟩;refine bE c λR c T=>sJ H (rg [40,9]) [(40,vb R)] ?_ ?_;refine zD<|zQ (aCl Z)<|Ld fA H 2 1 Z Z<|kF c λ_ c=>RJ c (λc=>zQ (aCd Z)<|Ld fA H 2 2 Z Z<|aBc c λq c=>pt (vb q)<|zB (vb q) ?_) λc=>?_;cases c;exact jn<|mt () (H.U [0,1,2]);refine zK<|zK<|zK<|pf (vb false)<|zB (vb false) ?_
 cases c;exact jn<|mt () (H.U [0,1,2]);rintro _ ρ _ H;have c:=T;refine WJ c (λc=>SR<|zC (i6 d)<|zB (i6 d)<|zB (i6 2)<|RM ?_) λc=>?_;cases c;exact zI<|zN<|zN<|zH<|zH<|zN<|zH<|mV Z Z Z ⟨Z,H.U []⟩;refine bE c λU c V=>jo H (rg [50,15]) (λ(g:Unit)=>[(50,vb U)]) (λg=>[]) [0,1] ?_ ?_;have s:=H;have H:=H.rb;have bf:=H;refine yM H (rg [0,15]) (kz [0,0,0,0,1,0,1,0,0,0,0,1,0,0,0]) mixed ?_;refine XM (i6 d)<|lE c λX Y c=>XQ (dU (vG (a:=d) (b:=0) Z Z) Y)<|MxM.XL_splitb (b:=X) Z Z Z Z (λj=>?_) (λj=>?_);have c:=uT j c;refine XQ (sD Z)<|XR fA H 2 0 Z Z<|XQ (pG Z)<|XR vF H 1 1 Z Z<|XM (i6 d)<|lE c λaa ab c=>XQ (mW (a:=d) (b:=1) Z Z ab)<|bE c λac k c=>?_;obtain⟨ad,ae,_,_,af,ag,ah,ai,aj⟩:=yY (H.im 0 Z) k;obtain rfl:=dY ag;have H:=H.fz (.at ad (ae+aa.toNat*3) _) ⟨ah,ai,aj⟩;refine XQ (yV u78 bY af Z (zU k).1 (zU k).2.1 Z Z)<|XQ (sD Z)<|MxM.yS oS Z Z Z (λ_ ak=>yB fA Z (Cells.get ((H.Z ak).V (i:=3) Z).2.2 (i:=0) Z)) ?_;refine lE c λt al c=>XQ (dU (aQt (a:=e.At) (b:=ac.At) Z Z) al)<|XQ (jK (v:=vb t) Z Z)<|XQ (yE (v:=vb t) Z)<|nJ s H λ_ H=>?_;cases c;exact zF<|mt () (H.U [0,1]);have c:=uZ j c;refine XO<|MxM.XL_offr oS Z Z Z ?_;refine XO<|MxM.XL_offr oS Z Z Z ?_;refine XO<|XO<|XO<|XO<|MxM.XL_offr oS Z Z Z ?_;refine XO<|XQ (jJ (v:=vb false) Z Z)<|XQ (yE (v:=vb false) Z)<|nJ s H λ_ H=>?_;cases c;exact zF<|mt () (H.U [0,1])
 rintro _ ρ _ H;have H:=un2 H;have c:=V;refine WJ c (λc=>SR<|zC (i6 d)<|zB (i6 d)<|zB (i6 10)<|RM ?_) λc=>?_;cases c;exact zI<|zN<|zN<|zH<|zH<|zN<|zH<|mV Z Z Z ⟨Z,H.U []⟩;exact yK<|zO<|zO<|zF<|KN<|zD<|fZ c λam c=>zC (i6 am)<|jn<|me c () (H.U [0,1]);exact zZ<|zT<|zT<|zW<|zF<|me c () (H.U []);rintro _ _ ρ _ H c;refine SR<|zB (i6 (-1))<|zB (i6 0)<|RM ?_;cases c;exact zI<|mV Z Z Z ⟨Z,H.U []⟩
theorem Fesw {b:Series}{c:Value}{r:Int}(d:Fes b=some r)(H:Hd O w w S [aEa c b.Samples]):
  Rt 79 [.agg [i6 b.Den,c].toArray] (i6 r) w O S []:=by
 refine CW 11 Tryz.func79 ?_;refine SR<|xb (yF (cs:=[i6 b.Den,c]) Z H) λh i H=>zB (i6 0)<|RM<|SR<|lb H 1 Z aHw aTo ?_;obtain⟨⟨e,a⟩,f,d⟩:=yL d;refine RC (fH Tryz.func111) (Fd4w f (H.W [] [0])) H λj H=>zC (.tuple #[i6 e,i6 a])<|zQ (yJ (v:=i6 e) Z Z)<|zQ (yJ (v:=i6 a) Z Z)<|zB (i6 e)<|zB (i6 a)<|RM<|SR<|zC (i6 a)<|zB (i6 a)<|RM ?_;cases d;exact zI<|p1z ⟨Z,H.U []⟩
theorem Fdlw {h:List gW}{c:Value}{r:Int}(a:Fdl h=some r)(H:Hd O w w S [jX c h]):
  Rt 46 [c] (i6 r) w O S []:=by
 refine CW 36 Tryz.func46 ?_;refine SR<|zB (i6 0)<|RM<|SQ<|SR<|zC c<|ln a (H.im 0 Z) u22 λG a=>kW a λI a=>RM<|WJ a (λa=>SR<|zB (i6 3)<|RM ?_) λa=>?_;cases a;exact zI<|zH<|p1z ⟨Z,H.U []⟩;refine WZ<|jk a H (rg [2,4,9,27]) (λx (y:Unit)=>[]) (λx y=>[]) [] (λJ a=>?_) ?_;refine SR<|zC c<|ln a (H.im 0 Z) u22 λK a=>zC (i6 0)<|RM<|zJ<|lo a H (rg [2,4,11,25]) (λx (y:Unit)=>[(11,i6 x)]) (λx y=>[]) [0] () (H.U [0]) ?_;clear H a;rintro L d _ ρ M H a;have H:=un1 H;refine SR<|eF a λN a=>RM<|SQ<|WJ a (λa=>WZ<|SQ<|zJ<|SR<|zC (i6 d)<|bE a λb i a=>?_) λa=>?_;obtain⟨j,k,P,Q,l,n,o,p,q⟩:=yY (H.im 0 Z) i;obtain⟨e,rfl,s⟩:=xQ n;have H:=H.fzs [.at j (k+d.toNat*4) _,.sl dQ e b.Series.Samples] ⟨⟨o,p,q⟩,s,T1⟩;refine ix u22 tC l i<|zQ (yQ (zY (cs:=[sb b.Name,i6 b.Series.Den,e,i6 b.Long]) aUq Z tC Z (H.im 1 Z).2.2) Z)<|xb (yT aXv H) λ_ T H=>zB (i6 d)<|xu (yG (vs:=[sb b.Name,i6 b.Series.Den,e,i6 b.Long]) H 3 Z tC Z Z Z ⟨Z,Z,(dG (H.im 2 Z)),Z,T1⟩ Z) λU H=>RM<|SQ<|SR<|zQ (wC Z)<|Ld eU H 3 0 Z Z<|bE a λV t a=>RC en47 (Favw t (H.W [] [])) H λX H=>bC a λY a=>RM<|WJ a (λa=>SR<|zB (i6 8)<|RM ?_) λa=>?_;cases a;exact zI<|zH<|zN<|zH<|zH<|zN<|zH<|p1z ⟨Z,H.U []⟩;refine WZ<|SQ<|SR<|zC c<|zC (i6 d)<|bE a λu v a=>aAx Z Z (rP u22 tC (H.im 0 Z) Z Z v) ?_;rintro z A;have H:=H.fz (.sl aN z u) A;refine zQ (kX Z)<|bE a λ_ B a=>cAz (fH Tryz.func77) (Fe6w B (H.W [3] [4,2])) λ_ C=>?_
 have H:=un5<|H.back [3] [4,2] Z C;refine RM<|WJ a (λa=>SR<|zB (i6 5)<|RM ?_) λa=>?_;cases a;exact zI<|zH<|zN<|zH<|zH<|zN<|zH<|p1z ⟨Z,H.U []⟩;refine WZ<|SQ<|SR<|zQ (aHc Z)<|zQ (yQ (zY (cs:=[i6 b.Series.Den,e]) aHw Z aTo Z (Cells.drop (Hbc H 4 Z) 1 2)) Z)<|bE a λf D a=>RC (fH Tryz.func79) (Fesw D (H.W [] [2])) H λ_ H=>zB (i6 f)<|RM<|SR<|zC (i6 f)<|kF a λ_ a=>RM<|WJ a (λa=>SR<|zC (i6 f)<|zB (i6 f)<|RM ?_) λa=>?_;cases a;exact zI<|zH<|zN<|zH<|zH<|zN<|zH<|p1z ⟨Z,H.U []⟩;refine WZ<|SR<|zQ (aPm Z)<|Ld fA H 4 3 Z Z<|bE a λ_ E a=>RC aWd (aYb E (H.W [] [])) H λaf H=>bC a λ_ a=>RM<|WJ a (λa=>SR<|zB (i6 9)<|RM ?_) λa=>?_;cases a;exact zI<|zN<|zH<|zH<|zN<|zH<|p1z ⟨Z,H.U []⟩;exact yK<|zO<|zF<|KN<|zD<|fZ a λF a=>zC (i6 F)<|jn<|me a () (H.U [0]);exact zZ<|zT<|zT<|zW<|zF<|me a () (H.U []);rintro _ _ ρ _ H a;refine SR<|zB (i6 0)<|RM ?_;cases a;exact zI<|p1z ⟨Z,H.U []⟩
theorem Fdpw {b:Flight}{c:Value}{r:Int}(a:Fdp b=some r)(H:Hd O w w S [jX c b.Tracks]):
  Rt 25 [.agg [sb b.Tail,sb b.Route,i6 b.Day,i6 b.From,i6 b.To,c].toArray] (i6 r) w O S []:=by
 refine CW 58 Tryz.func25 ?_;refine SR<|xb (yF (cs:=[sb b.Tail,sb b.Route,i6 b.Day,i6 b.From,i6 b.To,c]) Z H) λd F H=>zB (i6 0)<|RM<|SQ<|zJ<|bE a λi a j=>sJ H (rg [3,16]) [(3,vb i)] ?_ ?_;refine zD<|zQ (aRp Z)<|Ld eU H 1 0 Z Z<|RLb a (vK (s1:=b.Tail) (s2:=[]) Z Z) λG a=>bE a λk a l=>xI 6 [7,8,9,10,11,12] [(12,vb k)] (λwl=>Hd O w wl S [jX c b.Tracks,.blk d [sb b.Tail,sb b.Route,i6 b.Day,i6 b.From,i6 b.To,c] 24]) ?_ ?_;refine RJ a (λa=>zQ (aRp Z)<|Ld eU H 1 0 Z Z<|bE a λI n a=>RC en44 (Fb5w n (H.W [] [])) H λJ H=>bC a λo a=>pt (vb o) ?_) λa=>?_;cases a;exact jn<|meet ⟨(yC Z yR),H.U [0,1]⟩;refine zK<|zK<|zK<|zK<|pf (vb false) ?_;cases a;exact jn<|meet ⟨(yC Z yR),H.U [0,1]⟩;rintro ρ K H;have a:=l;refine RJ a (λa=>zK<|zK<|zK<|zK<|pt (vb true)<|zB (vb true) ?_) λa=>?_;cases a;exact jn<|mt () (H.U [0,1]);refine zQ (fa24_1 Z)<|Ld eU H 1 1 Z Z<|bE a λL p a=>RC en44 (Fb5w p (H.W [] [])) H λM H=>bC a λe a=>pf (vb e)<|zB (vb e) ?_;cases a;exact jn<|mt () (H.U [0,1]);rintro _ ρ N H;have a:=j;refine WJ a (λa=>SR<|zB (i6 8)<|RM ?_) λa=>?_;cases a;exact zI<|zN<|zH<|p1z ⟨Z,H.U []⟩;refine bE a λq a s=>sJ H (rg [19,22]) [(19,vb q)] ?_ ?_;refine zD<|zQ (fa24_2 Z)<|Ld fA H 1 2 Z Z<|bE a λP t a=>RC en45 (Fcaw t (H.W [] [])) H λQ H=>bC a λ_ a=>bE a λu a v=>xI 5 [24,25,26,27,28] [(28,vb u)] (λwl=>Hd O w wl S [jX c b.Tracks,.blk d [sb b.Tail,sb b.Route,i6 b.Day,i6 b.From,i6 b.To,c] 24]) ?_ ?_
 refine RJ a (λa=>zK<|zK<|zK<|pt (vb true) ?_) λa=>?_;cases a;exact jn<|meet ⟨(yC Z yR),H.U [0,1]⟩;refine zQ (tH Z)<|Ld fA H 1 3 Z Z<|eF a λx a=>pf (vb x) ?_;cases a;exact jn<|meet ⟨(yC Z yR),H.U [0,1]⟩;rintro ρ T H;have a:=v;refine bE a λy a z=>xI 7 [29,30,31,32,33,34,35] [(35,vb y)] (λwl=>Hd O w wl S [jX c b.Tracks,.blk d [sb b.Tail,sb b.Route,i6 b.Day,i6 b.From,i6 b.To,c] 24]) ?_ ?_;refine RJ a (λa=>zK<|zK<|zK<|zK<|zK<|pt (vb true) ?_) λa=>?_;cases a;exact jn<|meet ⟨(yC Z yR),H.U [0,1]⟩;refine zQ (tH Z)<|Ld fA H 1 3 Z Z<|zQ (uS Z)<|Ld fA H 1 4 Z Z<|kW a λA a=>pf (vb A) ?_;cases a;exact jn<|meet ⟨(yC Z yR),H.U [0,1]⟩;rintro ρ U H;have a:=z;refine RJ a (λa=>zK<|zK<|zK<|pt (vb true)<|zB (vb true) ?_) λa=>?_;cases a;exact jn<|mt () (H.U [0,1]);refine zQ (uS Z)<|Ld fA H 1 4 Z Z<|wK a λf a=>pf (vb f)<|zB (vb f) ?_;cases a;exact jn<|mt () (H.U [0,1]);rintro _ ρ V H;have a:=s;refine WJ a (λa=>SR<|zB (i6 9)<|RM ?_) λa=>?_;cases a;exact zI<|zN<|zH<|p1z ⟨Z,H.U []⟩;refine bE a λB a C=>sJ H (rg [41,14]) [(41,vb B)] ?_ ?_;refine zD<|zQ (uS Z)<|Ld fA H 1 4 Z Z<|zQ (tH Z)<|Ld fA H 1 3 Z Z<|vI a λX a=>fZ a λY a=>kW a λ_ a=>RJ a (λa=>zK<|zK<|zK<|zK<|pt (vb true)<|zB (vb true) ?_) λa=>?_;cases a;exact jn<|mt () (H.U [0,1]);refine zQ (vZ Z)<|Ld aDg H 1 5 Z Z<|ln a (H.im 0 Z) u22 λ_ a=>kW a λh a=>pf (vb h)<|zB (vb h) ?_
 cases a;exact jn<|mt () (H.U [0,1]);rintro _ ρ _ H;have a:=C;refine WJ a (λa=>SR<|zB (i6 3)<|RM ?_) λa=>?_;cases a;exact zI<|zN<|zH<|p1z ⟨Z,H.U []⟩;refine yK<|zO<|zF<|KN<|SR<|zQ (vZ Z)<|Ld aDg H 1 5 Z Z<|bE a λD E a=>RC (fH Tryz.func46) (Fdlw E (H.W [] [0])) H λ_ H=>zB (i6 D)<|RM ?_;cases a;exact zI<|p1z ⟨Z,H.U []⟩
theorem Faiw {e:List Str}{c:Str}{d:Value}{r:Int}(a:Fai e c=some r)(H:Hd O w w S [fQ d e]):
  Rt 20 [d,sb c] (i6 r) w O S []:=by
 refine CW 19 Tryz.func20 ?_;refine SR<|zB (i6 0)<|RM<|jk a H (rg [4,15]) (λx (y:Unit)=>[]) (λx y=>[]) [] (λj a=>?_) ?_;refine SR<|zC d<|ln a (H.im 0 Z) u25 λk a=>zC (i6 0)<|RM<|zJ<|lo a H (rg [4,2,8,11]) (λx (y:Unit)=>[(8,i6 x)]) (λx y=>[]) [0] () (H.U [0]) ?_;clear H a;rintro l b _ ρ n H a;have H:=un1 H;refine SR<|eF a λo a=>RM<|SQ<|WJ a (λa=>WZ<|SQ<|zJ<|SR<|zC (i6 b)<|zB (i6 b)<|RM<|SR<|zC (sb c)<|zC d<|zC (i6 b)<|bE a λf h a=>rea H (H.im 0 Z) (sb f) h u25 sz9 eU λp q H=>RLb a (xU (s1:=c) (s2:=f) Z Z) λs a=>RM<|WJ a (λa=>SR<|zC (i6 b)<|zB (i6 b)<|RM ?_) λa=>?_) λa=>?_;cases a;exact zI<|zN<|zH<|zH<|zN<|zH<|p1z ⟨Z,H.U []⟩;exact yK<|zO<|zF<|KN<|zD<|fZ a λi a=>zC (i6 i)<|jn<|me a () (H.U [0]);exact zZ<|zT<|zT<|zW<|zF<|me a () (H.U []);rintro _ _ ρ t H a;refine SR<|zB (i6 (-1))<|RM ?_;cases a;exact zI<|p1z ⟨Z,H.U []⟩
theorem Fbow {d:List Str}{b:Str}{c:Value}{r:Bool}(a:Fbo d b=some r)(H:Hd O w w S [fQ c d]):
  Rt 48 [c,sb b] (vb r) w O S []:=by
 refine CW 9 Tryz.func48 ?_;refine SR<|zB (vb false)<|RM<|SR<|zC c<|zC (sb b)<|bE a λh e a=>RC en20 (Faiw e (H.W [] [0])) H λi H=>wK a λf a=>zB (vb f)<|RM ?_;cases a;exact zI<|p1z ⟨Z,H.U []⟩
abbrev Fge (f:Cond->Int->Int->Option (Bool×Int)):Prop:= ∀(p0:Cond) (p1:Int) (p2:Int) (v1:Value) (b3:Nat) (r:Bool×Int) (_:f p0 p1 p2=some r) (O S:List Nat) (w:World) (_:Hd O w w S [.blk b3 [i6 p2] 3,dJ v1 p0.Kids]),
  Cl 112 [.agg [i6 p0.Kind,sb p0.Name,sb p0.Other,i6 p0.Op,i6 p0.N,i6 p0.Frames,v1].toArray,i6 p1,gV b3] w λe w'=>e= .returned (vb r.1)/\Hd O w w' S [.blk b3 [i6 r.2] 3]
theorem Fcmw (rfA:Cond->Int->Int->Option (Bool×Int))(rhA:Fge rfA)(b:Cond)(f j:Int)(i:Value)(d:Nat)(r:Bool×Int)(a:Fcm rfA b f j=some r)(O S:List Nat)(w:World)(H:Hd O w w S [.blk d [i6 j] 3,dJ i b.Kids]):
  Cl 112 [.agg [i6 b.Kind,sb b.Name,sb b.Other,i6 b.Op,i6 b.N,i6 b.Frames,i].toArray,i6 f,gV d] w λe l=>e= .returned (vb r.1)/\Hd O w l S [.blk d [i6 r.2] 3]:=by
 unfold Fcm at a;refine CW 36 Tryz.func112 ?_;refine SR<|xb (yF (cs:=[i6 b.Kind,sb b.Name,sb b.Other,i6 b.Op,i6 b.N,i6 b.Frames,i]) Z H) λL M H=>zB (vb false)<|RM<|SR<|zC (gV d)<|zQ (aW Z)<|Ld fA H 0 0 Z Z<|fZ a λn a=>zQ (aW Z)<|xu (yZ H 0 Z sz3 Z (v:=i6 n) Z Z Z) λP H=>RM<|SQ<|bE a λo a p=>sJ H (rg [14,8]) [(21,vb o)] ?_ ?_;refine zD<|zC (i6 f)<|fG a λQ a=>RJ a (λa=>zK<|zK<|zK<|zK<|pt (vb true) ?_) λa=>?_;cases a;exact jn<|mt () (H.U [0,1,2]);refine zC (gV d)<|zQ (aW Z)<|Ld fA H 0 0 Z Z<|kW a λq a=>pf (vb q) ?_;cases a;exact jn<|mt () (H.U [0,1,2]);rintro _ ρ _ H;have a:=p;refine WJ a (λa=>SR<|zB (vb false)<|RM ?_) λa=>?_;cases a;exact zI<|zH<|p1z ⟨Z,H.U [0]⟩;refine WZ<|jk a H (rg [6,1,8,1,22,14]) (λx (y:Unit)=>[]) (λx y=>[.blk d [i6 x] 3]) [0] (λT a=>?_) ?_;refine SR<|zQ (kC Z)<|Ld mO H 2 6 Z Z<|ln a (H.im 1 Z) u86 λU a=>zC (i6 0)<|RM<|zJ ?_;unfold Ffw at a;refine lo a H (rg [6,1,8,1,25,11]) (λx (y:Unit)=>[(25,i6 x.1)]) (λx y=>[.blk d [i6 x.2] 3]) [0,2] () (H.U [0,1]) ?_;clear H a;rintro V ⟨s,t⟩ _ ρ X H a;have H:=un2 H;refine SR<|eF a λY a=>RM<|SQ<|WJ a (λa=>WZ<|SQ<|zJ<|SR<|bE a λc k a=>?_) λa=>?_;obtain⟨u,z,_,_,A,B,C,D,E⟩:=yY (H.im 1 Z) k;obtain⟨h,rfl,F⟩:=dK B;have H:=H.fzs [.at u (z+s.toNat*7) _,.sl dP h c.Kids] ⟨⟨C,D,E⟩,F,T1⟩;refine ix u86 dI A k<|zQ (yQ (zY (cs:=[i6 c.Kind,sb c.Name,sb c.Other,i6 c.Op,i6 c.N,i6 c.Frames,h]) dB Z dI Z (H.im 2 Z).2.2) Z)<|xb (yT aDn H) λ_ _ H=>xu (yG (vs:=[i6 c.Kind,sb c.Name,sb c.Other,i6 c.Op,i6 c.N,i6 c.Frames,h]) H 4 Z dI Z Z Z ⟨Z,Z,Z,Z,Z,Z,(dG (H.im 3 Z)),T1⟩ Z) λ_ H=>RM<|SR<|lb H 4 Z dB dI<|zC (i6 f)<|vI a λG a=>zC (gV d) ?_
 obtain⟨⟨af,_⟩,I,a⟩:=yL a;refine cAz en112 (rhA c G t h d _ I _ _ _ (H.W [0] [3])) λ_ J=>?_;have H:=un5<|H.back [0] [3] Z J;refine bC a λ_ a=>RM<|WJ a (λa=>SR<|zB (vb false)<|RM ?_) λa=>?_;cases a;exact zI<|zN<|zH<|zH<|zN<|zH<|p1z ⟨Z,H.U [4]⟩;exact yK<|zO<|zF<|KN<|zD<|fZ a λK a=>zC (i6 K)<|jn<|me a () (H.U [4,0]);exact zZ<|zT<|zT<|zW<|zF<|me a () (H.U [0]);rintro _ _ ρ _ H a;have H:=un1 H;refine SR<|zB (vb true)<|RM ?_;cases a;exact zI<|p1z ⟨Z,H.U [0]⟩
theorem Fi4:Fge (Fdo):=by
 have h: ∀n,Fge (Faw n):=by
  intro n
  induction n with
  |zero=>intro b c d e f r a;cases a
  |succ n ih=>intro b c d e f r a;exact Fcmw (Faw n) ih b c d e f r a
 exact h FU
theorem Fafw {b:Int}{r:dZ×Bool}(a:Faf b=some r)(H:Hd O w w S []):
  Rt 133 [i6 b] (.tuple #[.agg [vb r.1.name,vb r.1.other,vb r.1.op,vb r.1.n,vb r.1.frames,i6 r.1.least,i6 r.1.most].toArray,vb r.2]) w O S []:=by
 refine CW 41 Tryz.func133 ?_;refine SR<|xb (yT bAw H) λG I H=>zB (vb false)<|RM<|SQ<|SR<|zC (i6 b)<|RM<|zJ<|bE a λc a d=>sJ H [5,6,7] [(5,vb c)] ?_ ?_;refine SR<|fG a λe a=>zB (vb e)<|RM<|WJ a ?_ ?_<;>intro a;cases a;exact js<|mt () (H.U [0]);refine zD<|fG a λf a=>zB (vb f) ?_;cases a;exact jn<|mt () (H.U [0]);rintro _ ρ J H;have a:=d;refine WJ a (λa=>SR<|zQ (yU (cs:=[vb false,vb false,vb false,vb false,vb false,i6 0,i6 0]) bz215)<|xu (yG (vs:=[vb false,vb false,vb false,vb false,vb false,i6 0,i6 0]) H 0 Z mP Z Z Z ⟨Z,Z,Z,Z,Z,Z,Z,T1⟩ Z) λK H=>zB (vb true)<|RM ?_) λa=>?_;cases a;exact zI<|zN<|zH<|jC (v1:=vb true) Z Z (yX uQ mP Z (Hbc H 0 Z)) Z ⟨Z,H.U []⟩;refine SR<|fG a λh a=>zB (vb h)<|RM<|WJ a (λa=>SR<|zQ (yU (cs:=[vb true,vb false,vb true,vb true,vb false,i6 0,i6 0]) (aTs _ _ _))<|xu (yG (vs:=[vb true,vb false,vb true,vb true,vb false,i6 0,i6 0]) H 0 Z mP Z Z Z ⟨Z,Z,Z,Z,Z,Z,Z,T1⟩ Z) λL H=>zB (vb true)<|RM ?_) λa=>?_;cases a;exact zI<|zN<|zH<|jC (v1:=vb true) Z Z (yX uQ mP Z (Hbc H 0 Z)) Z ⟨Z,H.U []⟩;refine SR<|fG a λi a=>zB (vb i)<|RM<|WJ a (λa=>SR<|zQ (yU (cs:=[vb true,vb true,vb true,vb false,vb false,i6 0,i6 0]) (aTx _ _ _))<|xu (yG (vs:=[vb true,vb true,vb true,vb false,vb false,i6 0,i6 0]) H 0 Z mP Z Z Z ⟨Z,Z,Z,Z,Z,Z,Z,T1⟩ Z) λM H=>zB (vb true)<|RM ?_) λa=>?_
 cases a;exact zI<|zN<|zH<|jC (v1:=vb true) Z Z (yX uQ mP Z (Hbc H 0 Z)) Z ⟨Z,H.U []⟩;refine SR<|fG a λj a=>zB (vb j)<|RM<|WJ a (λa=>SR<|zQ (yU (cs:=[vb true,vb false,vb false,vb true,vb true,i6 0,i6 0]) (aTu _ _ _))<|xu (yG (vs:=[vb true,vb false,vb false,vb true,vb true,i6 0,i6 0]) H 0 Z mP Z Z Z ⟨Z,Z,Z,Z,Z,Z,Z,T1⟩ Z) λN H=>zB (vb true)<|RM ?_) λa=>?_;cases a;exact zI<|zN<|zH<|jC (v1:=vb true) Z Z (yX uQ mP Z (Hbc H 0 Z)) Z ⟨Z,H.U []⟩;refine bE a λk a l=>sJ H [18,19,20] [(18,vb k)] ?_ ?_;refine SR<|fG a λo a=>zB (vb o)<|RM<|WJ a ?_ ?_<;>intro a;cases a;exact js<|mt () (H.U [0]);refine zD<|fG a λp a=>zB (vb p) ?_;cases a;exact jn<|mt () (H.U [0]);rintro _ ρ P H;have a:=l;refine WJ a (λa=>SR<|zQ (yU (cs:=[vb true,vb false,vb false,vb false,vb false,i6 0,i6 0]) (bt215_0 _))<|xu (yG (vs:=[vb true,vb false,vb false,vb false,vb false,i6 0,i6 0]) H 0 Z mP Z Z Z ⟨Z,Z,Z,Z,Z,Z,Z,T1⟩ Z) λQ H=>zB (vb true)<|RM ?_) λa=>?_;cases a;exact zI<|zN<|zH<|jC (v1:=vb true) Z Z (yX uQ mP Z (Hbc H 0 Z)) Z ⟨Z,H.U []⟩;refine bE a λq a s=>sJ H [22,23,24] [(22,vb q)] ?_ ?_;refine SR<|fG a λt a=>zB (vb t)<|RM<|WJ a ?_ ?_<;>intro a;cases a;exact js<|mt () (H.U [0]);refine zD<|fG a λu a=>zB (vb u) ?_;cases a;exact jn<|mt () (H.U [0]);rintro _ ρ _ H;have a:=s;refine WJ a (λa=>SR<|zQ (yU (cs:=[vb false,vb false,vb false,vb false,vb false,i6 1,i6 1]) (aGj _ _))<|xu (yG (vs:=[vb false,vb false,vb false,vb false,vb false,i6 1,i6 1]) H 0 Z mP Z Z Z ⟨Z,Z,Z,Z,Z,Z,Z,T1⟩ Z) λT H=>zB (vb true)<|RM ?_) λa=>?_
 cases a;exact zI<|zN<|zH<|jC (v1:=vb true) Z Z (yX uQ mP Z (Hbc H 0 Z)) Z ⟨Z,H.U []⟩;refine bE a λv a x=>sJ H [26,27,28] [(26,vb v)] ?_ ?_;refine SR<|fG a λy a=>zB (vb y)<|RM<|WJ a ?_ ?_<;>intro a;cases a;exact js<|mt () (H.U [0]);refine zD<|fG a λz a=>zB (vb z) ?_;cases a;exact jn<|mt () (H.U [0]);rintro _ ρ U H;have a:=x;refine WJ a (λa=>SR<|zQ (yU (cs:=[vb false,vb false,vb false,vb false,vb false,i6 2,i6 200]) (aGj _ _))<|xu (yG (vs:=[vb false,vb false,vb false,vb false,vb false,i6 2,i6 200]) H 0 Z mP Z Z Z ⟨Z,Z,Z,Z,Z,Z,Z,T1⟩ Z) λV H=>zB (vb true)<|RM ?_) λa=>?_;cases a;exact zI<|zN<|zH<|jC (v1:=vb true) Z Z (yX uQ mP Z (Hbc H 0 Z)) Z ⟨Z,H.U []⟩;refine bE a λA a B=>sJ H [30,31,32] [(30,vb A)] ?_ ?_;refine SR<|fG a λC a=>zB (vb C)<|RM<|WJ a ?_ ?_<;>intro a;cases a;exact js<|mt () (H.U [0]);refine zD<|fG a λD a=>zB (vb D) ?_;cases a;exact jn<|mt () (H.U [0]);rintro _ ρ X H;have a:=B;refine WJ a (λa=>SR<|zQ (yU (cs:=[vb false,vb false,vb false,vb false,vb true,i6 1,i6 1]) (aTk _ _ _))<|xu (yG (vs:=[vb false,vb false,vb false,vb false,vb true,i6 1,i6 1]) H 0 Z mP Z Z Z ⟨Z,Z,Z,Z,Z,Z,Z,T1⟩ Z) λY H=>zB (vb true)<|RM ?_) λa=>?_;cases a;exact zI<|zN<|zH<|jC (v1:=vb true) Z Z (yX uQ mP Z (Hbc H 0 Z)) Z ⟨Z,H.U []⟩;refine SR<|fG a λE a=>zB (vb E)<|RM<|WJ a ?_ ?_<;>intro a
 refine SR<|zQ (yU (cs:=[vb false,vb false,vb false,vb true,vb true,i6 1,i6 1]) (aMq _ _ _ _))<|xu (yG (vs:=[vb false,vb false,vb false,vb true,vb true,i6 1,i6 1]) H 0 Z mP Z Z Z ⟨Z,Z,Z,Z,Z,Z,Z,T1⟩ Z) λ_ H=>zB (vb true)<|RM ?_;cases a;exact zI<|zN<|zH<|jC (v1:=vb true) Z Z (yX uQ mP Z (Hbc H 0 Z)) Z ⟨Z,H.U []⟩;refine SR<|fG a λF a=>zB (vb F)<|RM<|WJ a (λa=>SR<|zQ (yU (cs:=[vb false,vb false,vb false,vb false,vb false,i6 2,i6 2]) (aGj _ _))<|xu (yG (vs:=[vb false,vb false,vb false,vb false,vb false,i6 2,i6 2]) H 0 Z mP Z Z Z ⟨Z,Z,Z,Z,Z,Z,Z,T1⟩ Z) λ_ H=>zB (vb true)<|RM ?_) λa=>?_;cases a;exact zI<|zN<|zH<|jC (v1:=vb true) Z Z (yX uQ mP Z (Hbc H 0 Z)) Z ⟨Z,H.U []⟩;refine yK<|zO<|zF<|KN<|SR<|zQ (yU (cs:=[vb false,vb false,vb false,vb false,vb false,i6 0,i6 0]) bz215)<|xu (yG (vs:=[vb false,vb false,vb false,vb false,vb false,i6 0,i6 0]) H 0 Z mP Z Z Z ⟨Z,Z,Z,Z,Z,Z,Z,T1⟩ Z) λ_ H=>zB (vb false)<|RM ?_;cases a;exact zI<|jC (v1:=vb false) Z Z (yX uQ mP Z (Hbc H 0 Z)) Z ⟨Z,H.U []⟩
theorem Fayw {c:Cond}{d:Value}{r:Int}(a:Fay c=some r)(H:Hd O w w S [dJ d c.Kids]):
  Rt 113 [.agg [i6 c.Kind,sb c.Name,sb c.Other,i6 c.Op,i6 c.N,i6 c.Frames,d].toArray] (i6 r) w O S []:=by
 refine CW 140 Tryz.func113 ?_;refine SR<|xb (yF (cs:=[i6 c.Kind,sb c.Name,sb c.Other,i6 c.Op,i6 c.N,i6 c.Frames,d]) Z H) λe _ H=>zB (i6 0)<|RM<|SR<|zQ (aC Z)<|Ld fA H 1 0 Z Z ?_;obtain⟨⟨b,h⟩,u,a⟩:=yL a;refine RC (fH Tryz.func133) (Fafw u (H.W [] [])) H λ_ H=>zC (.tuple #[.agg [vb b.name,vb b.other,vb b.op,vb b.n,vb b.frames,i6 b.least,i6 b.most].toArray,vb h])<|zQ (yJ (v:= .agg [vb b.name,vb b.other,vb b.op,vb b.n,vb b.frames,i6 b.least,i6 b.most].toArray) Z Z)<|zQ (yJ (v:=vb h) Z Z)<|xb (yT bAw H) λf _ H=>xu (yG (vs:=[vb b.name,vb b.other,vb b.op,vb b.n,vb b.frames,i6 b.least,i6 b.most]) H 2 Z mP Z Z Z ⟨Z,Z,Z,Z,Z,Z,Z,T1⟩ Z) λ_ H=>zB (vb h)<|RM<|SQ<|SR<|zC (vb h)<|bC a λ_ a=>RM<|WJ a (λa=>SR<|zB (i6 7)<|RM ?_) λa=>?_;cases a;exact zI<|zH<|p1z ⟨Z,H.U []⟩;refine WZ<|SQ<|bE a λx a y=>sJ H (rg [13,59]) [(71,vb x)] ?_ ?_;refine zD<|zQ (bAp Z)<|Ld nG H 2 0 Z Z<|bC a λ_ a=>bE a λz a A=>xI 5 [16,17,18,19,20] [(20,vb z)] (λwl=>Hd O w wl S [dJ d c.Kids,.blk e [i6 c.Kind,sb c.Name,sb c.Other,i6 c.Op,i6 c.N,i6 c.Frames,d] 88,.blk f [vb b.name,vb b.other,vb b.op,vb b.n,vb b.frames,i6 b.least,i6 b.most] 215]) ?_ ?_;refine RJ a (λa=>zQ (kL Z)<|Ld eU H 1 1 Z Z<|RLb a (vK (s1:=c.Name) (s2:=[]) Z Z) λB a=>pt (vb B) ?_) λa=>?_;cases a;exact jn<|meet ⟨(yC Z yR),H.U [0,1,2]⟩;refine zK<|zK<|zK<|pf (vb false) ?_;cases a;exact jn<|meet ⟨(yC Z yR),H.U [0,1,2]⟩
 rintro ρ _ H;have a:=A;refine bE a λC a D=>xI 10 [21,22,23,24,25,26,27,28,29,30] [(30,vb C)] (λwl=>Hd O w wl S [dJ d c.Kids,.blk e [i6 c.Kind,sb c.Name,sb c.Other,i6 c.Op,i6 c.N,i6 c.Frames,d] 88,.blk f [vb b.name,vb b.other,vb b.op,vb b.n,vb b.frames,i6 b.least,i6 b.most] 215]) ?_ ?_;refine RJ a (λa=>zK<|zK<|zK<|zK<|zK<|zK<|zK<|zK<|pt (vb true) ?_) λa=>?_;cases a;exact jn<|meet ⟨(yC Z yR),H.U [0,1,2]⟩;refine zQ (bAn Z)<|Ld nG H 2 1 Z Z<|bC a λ_ a=>RJ a (λa=>zQ (aBu Z)<|Ld eU H 1 2 Z Z<|RLb a (vK (s1:=c.Other) (s2:=[]) Z Z) λk a=>pt (vb k)<|pf (vb k) ?_) λa=>?_;cases a;exact jn<|meet ⟨(yC Z yR),H.U [0,1,2]⟩;refine zK<|zK<|zK<|pf (vb false)<|pf (vb false) ?_;cases a;exact jn<|meet ⟨(yC Z yR),H.U [0,1,2]⟩;rintro ρ _ H;have a:=D;refine bE a λE a F=>xI 10 [31,32,33,34,35,36,37,38,39,40] [(40,vb E)] (λwl=>Hd O w wl S [dJ d c.Kids,.blk e [i6 c.Kind,sb c.Name,sb c.Other,i6 c.Op,i6 c.N,i6 c.Frames,d] 88,.blk f [vb b.name,vb b.other,vb b.op,vb b.n,vb b.frames,i6 b.least,i6 b.most] 215]) ?_ ?_;refine RJ a (λa=>zK<|zK<|zK<|zK<|zK<|zK<|zK<|zK<|pt (vb true) ?_) λa=>?_;cases a;exact jn<|meet ⟨(yC Z yR),H.U [0,1,2]⟩;refine zQ (bBy Z)<|Ld nG H 2 2 Z Z<|bC a λ_ a=>RJ a (λa=>zQ (aBl Z)<|Ld fA H 1 3 Z Z<|kF a λl a=>pt (vb l)<|pf (vb l) ?_) λa=>?_;cases a;exact jn<|meet ⟨(yC Z yR),H.U [0,1,2]⟩;refine zK<|zK<|zK<|pf (vb false)<|pf (vb false) ?_
 cases a;exact jn<|meet ⟨(yC Z yR),H.U [0,1,2]⟩;rintro ρ a0 H;have a:=F;refine bE a λG a I=>xI 10 [41,42,43,44,45,46,47,48,49,50] [(50,vb G)] (λwl=>Hd O w wl S [dJ d c.Kids,.blk e [i6 c.Kind,sb c.Name,sb c.Other,i6 c.Op,i6 c.N,i6 c.Frames,d] 88,.blk f [vb b.name,vb b.other,vb b.op,vb b.n,vb b.frames,i6 b.least,i6 b.most] 215]) ?_ ?_;refine RJ a (λa=>zK<|zK<|zK<|zK<|zK<|zK<|zK<|zK<|pt (vb true) ?_) λa=>?_;cases a;exact jn<|meet ⟨(yC Z yR),H.U [0,1,2]⟩;refine zQ (aZo Z)<|Ld nG H 2 3 Z Z<|bC a λ_ a=>RJ a (λa=>zQ (pK Z)<|Ld fA H 1 4 Z Z<|kF a λo a=>pt (vb o)<|pf (vb o) ?_) λa=>?_;cases a;exact jn<|meet ⟨(yC Z yR),H.U [0,1,2]⟩;refine zK<|zK<|zK<|pf (vb false)<|pf (vb false) ?_;cases a;exact jn<|meet ⟨(yC Z yR),H.U [0,1,2]⟩;rintro ρ a2 H;have a:=I;refine bE a λJ a K=>xI 10 [51,52,53,54,55,56,57,58,59,60] [(60,vb J)] (λwl=>Hd O w wl S [dJ d c.Kids,.blk e [i6 c.Kind,sb c.Name,sb c.Other,i6 c.Op,i6 c.N,i6 c.Frames,d] 88,.blk f [vb b.name,vb b.other,vb b.op,vb b.n,vb b.frames,i6 b.least,i6 b.most] 215]) ?_ ?_;refine RJ a (λa=>zK<|zK<|zK<|zK<|zK<|zK<|zK<|zK<|pt (vb true) ?_) λa=>?_;cases a;exact jn<|meet ⟨(yC Z yR),H.U [0,1,2]⟩;refine zQ (bAm Z)<|Ld nG H 2 4 Z Z<|bC a λa3 a=>RJ a (λa=>zQ (jL Z)<|Ld fA H 1 5 Z Z<|kF a λp a=>pt (vb p)<|pf (vb p) ?_) λa=>?_;cases a;exact jn<|meet ⟨(yC Z yR),H.U [0,1,2]⟩;refine zK<|zK<|zK<|pf (vb false)<|pf (vb false) ?_
 cases a;exact jn<|meet ⟨(yC Z yR),H.U [0,1,2]⟩;rintro ρ a4 H;have a:=K;refine RJ a (λa=>zK<|zK<|zK<|zK<|zK<|zK<|zK<|zK<|zK<|pt (vb true) ?_) λa=>?_;cases a;exact jn<|mt () (H.U [0,1,2]);refine zQ (kC Z)<|Ld mO H 1 6 Z Z<|ln a (H.im 0 Z) u86 λa5 a=>zQ (fa215_5 Z)<|Ld fA H 2 5 Z Z<|zQ (fa215_6 Z)<|Ld fA H 2 6 Z Z<|bE a λ_ L a=>RC aWd (aYb L (H.W [] [])) H λ_ H=>bC a λM a=>pf (vb M) ?_;cases a;exact jn<|mt () (H.U [0,1,2]);rintro _ ρ _ H;have a:=y;refine WJ a (λa=>SR<|zB (i6 2)<|RM ?_) λa=>?_;cases a;exact zI<|zH<|p1z ⟨Z,H.U []⟩;refine WZ<|SQ<|zJ<|bE a λP a Q=>sJ H (rg [72,19]) [(72,vb P)] ?_ ?_;refine zD<|zQ (bAp Z)<|Ld nG H 2 0 Z Z<|bE a λR a T=>xI 6 [75,76,77,78,79,80] [(80,vb R)] (λwl=>Hd O w wl S [dJ d c.Kids,.blk e [i6 c.Kind,sb c.Name,sb c.Other,i6 c.Op,i6 c.N,i6 c.Frames,d] 88,.blk f [vb b.name,vb b.other,vb b.op,vb b.n,vb b.frames,i6 b.least,i6 b.most] 215]) ?_ ?_;refine RJ a (λa=>zQ (kL Z)<|Ld eU H 1 1 Z Z<|bE a λa9 U a=>RC en47 (Favw U (H.W [] [])) H λ_ H=>bC a λV a=>pt (vb V) ?_) λa=>?_;cases a;exact jn<|meet ⟨(yC Z yR),H.U [0,1,2]⟩;refine zK<|zK<|zK<|zK<|pf (vb false) ?_;cases a;exact jn<|meet ⟨(yC Z yR),H.U [0,1,2]⟩;rintro ρ _ H;have a:=T;refine RJ a (λa=>zK<|zK<|zK<|zK<|zK<|zK<|zK<|zK<|pt (vb true)<|zB (vb true) ?_) λa=>?_;cases a;exact jn<|mt () (H.U [0,1,2])
 refine zQ (bAn Z)<|Ld nG H 2 1 Z Z<|RJ a (λa=>zQ (aBu Z)<|Ld eU H 1 2 Z Z<|bE a λ_ X a=>RC en47 (Favw X (H.W [] [])) H λ_ H=>bC a λi a=>pt (vb i)<|pf (vb i)<|zB (vb i) ?_) λa=>?_;cases a;exact jn<|mt () (H.U [0,1,2]);refine zK<|zK<|zK<|zK<|pf (vb false)<|pf (vb false)<|zB (vb false) ?_;cases a;exact jn<|mt () (H.U [0,1,2]);rintro _ ρ _ H;have a:=Q;refine WJ a (λa=>SR<|zB (i6 8)<|RM ?_) λa=>?_;cases a;exact zI<|zN<|zH<|p1z ⟨Z,H.U []⟩;refine bE a λY a aa=>sJ H (rg [91,9]) [(91,vb Y)] ?_ ?_;refine zD<|zQ (bBy Z)<|Ld nG H 2 2 Z Z<|RJ a (λa=>zQ (aBl Z)<|Ld fA H 1 3 Z Z<|bE a λbf ab a=>RC aWd (aYb ab (H.W [] [])) H λ_ H=>bC a λq a=>pt (vb q)<|zB (vb q) ?_) λa=>?_;cases a;exact jn<|mt () (H.U [0,1,2]);refine zK<|zK<|zK<|zK<|pf (vb false)<|zB (vb false) ?_;cases a;exact jn<|mt () (H.U [0,1,2]);rintro _ ρ _ H;have a:=aa;refine WJ a (λa=>SR<|zB (i6 7)<|RM ?_) λa=>?_;cases a;exact zI<|zN<|zH<|p1z ⟨Z,H.U []⟩;refine bE a λac a ad=>sJ H (rg [100,9]) [(100,vb ac)] ?_ ?_;refine zD<|zQ (bAm Z)<|Ld nG H 2 4 Z Z<|RJ a (λa=>zQ (jL Z)<|Ld fA H 1 5 Z Z<|bE a λ_ ae a=>RC aWd (aYb ae (H.W [] [])) H λ_ H=>bC a λs a=>pt (vb s)<|zB (vb s) ?_) λa=>?_;cases a;exact jn<|mt () (H.U [0,1,2]);refine zK<|zK<|zK<|zK<|pf (vb false)<|zB (vb false) ?_;cases a;exact jn<|mt () (H.U [0,1,2])
 rintro _ ρ _ H;have a:=ad;refine WJ a (λa=>SR<|zB (i6 9)<|RM ?_) λa=>?_;cases a;exact zI<|zN<|zH<|p1z ⟨Z,H.U []⟩;refine bE a λaf a ag=>sJ H (rg [109,12]) [(109,vb af)] ?_ ?_;refine zD<|zQ (aC Z)<|Ld fA H 1 0 Z Z<|fG a λ_ a=>RJ a (λa=>zQ (pK Z)<|Ld fA H 1 4 Z Z<|zQ (jL Z)<|Ld fA H 1 5 Z Z<|bE a λ_ ah a=>RC aWd (aYb ah (H.W [] [])) H λ_ H=>bC a λt a=>pt (vb t)<|zB (vb t) ?_) λa=>?_;cases a;exact jn<|mt () (H.U [0,1,2]);refine zK<|zK<|zK<|zK<|zK<|zK<|pf (vb false)<|zB (vb false) ?_;cases a;exact jn<|mt () (H.U [0,1,2]);rintro _ ρ _ H;have a:=ag;refine WJ a (λa=>SR<|zB (i6 9)<|RM ?_) λa=>?_;cases a;exact zI<|zN<|zH<|p1z ⟨Z,H.U []⟩;refine bE a λai a aj=>jo H (rg [121,19]) (λ(g:Unit)=>[(121,vb ai)]) (λg=>[]) [] ?_ ?_;refine zD<|zQ (aZo Z)<|Ld nG H 2 3 Z Z<|bE a λak a al=>xI 6 [124,125,126,127,128,129] [(129,vb ak)] (λwl=>Hd O w wl S [dJ d c.Kids,.blk e [i6 c.Kind,sb c.Name,sb c.Other,i6 c.Op,i6 c.N,i6 c.Frames,d] 88,.blk f [vb b.name,vb b.other,vb b.op,vb b.n,vb b.frames,i6 b.least,i6 b.most] 215]) ?_ ?_;refine RJ a (λa=>zQ (pK Z)<|Ld fA H 1 4 Z Z<|bE a λ_ am a=>RC aWd (aYb am (H.W [] [])) H λ_ H=>bC a λan a=>pt (vb an) ?_) λa=>?_;cases a;exact jn<|meet ⟨(yC Z yR),H.U [0,1,2]⟩;refine zK<|zK<|zK<|zK<|pf (vb false) ?_;cases a;exact jn<|meet ⟨(yC Z yR),H.U [0,1,2]⟩;rintro ρ _ H
 have a:=al;refine RJ a (λa=>zK<|zK<|zK<|zK<|zK<|zK<|zK<|zK<|pt (vb true)<|zB (vb true) ?_) λa=>?_;cases a;exact jn<|mt () (H.U []);refine zQ (aC Z)<|Ld fA H 1 0 Z Z<|fG a λ_ a=>RJ a (λa=>zQ (pK Z)<|Ld fA H 1 4 Z Z<|eF a λj a=>pt (vb j)<|pf (vb j)<|zB (vb j) ?_) λa=>?_;cases a;exact jn<|mt () (H.U []);refine zK<|zK<|zK<|pf (vb false)<|pf (vb false)<|zB (vb false) ?_;cases a;exact jn<|mt () (H.U []);rintro _ ρ _ H;have a:=aj;refine WJ a (λa=>SR<|zB (i6 9)<|RM ?_) λa=>?_;cases a;exact zI<|zN<|zH<|p1z ⟨Z,H.U []⟩;refine yK<|zO<|zF<|KN<|SR<|zB (i6 0)<|RM ?_;cases a;exact zI<|p1z ⟨Z,H.U []⟩
abbrev Fhc (f:Cond->Option Int):Prop:= ∀(p0:Cond) (v1:Value) (r:Int) (_:f p0=some r) (O S:List Nat) (w:World) (_:Hd O w w S [dJ v1 p0.Kids]),
  Cl 84 [.agg [i6 p0.Kind,sb p0.Name,sb p0.Other,i6 p0.Op,i6 p0.N,i6 p0.Frames,v1].toArray,.func (.func 113) #[] #[]] w λe w'=>e= .returned (i6 r)/\Hd O w w' S []
end Go.Proofs.YtibkjjklfhfipabGreatDoor.L
