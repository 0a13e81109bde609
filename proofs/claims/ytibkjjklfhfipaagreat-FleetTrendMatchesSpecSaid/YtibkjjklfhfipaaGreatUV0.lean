/- Walks that the claim stands on; no condition beyond those stated. -/
import Derived.Test.YtibkjjklfhfipaaGreatUP
import Derived.Test.YtibkjjklfhfipaaGreatXVr
namespace Go.Proofs.YtibkjjklfhfipaaGreat.L
open Go.RowKit Go.OB Go.Lf
set_option maxRecDepth 100000
set_option maxHeartbeats 4000000
abbrev vb:=Value.bool
theorem T1:True:=trivial
abbrev cE (c:Cond):Cond:=Cond.mk c.Kind c.Name c.Other c.Op c.N c.Frames c.Kids
theorem Z {α:Sort _}{a:α}:a=a:=rfl
variable {O S:List Nat}{w:World}
abbrev En (f:FuncId):Prop:=Go.OB.Enters Tryz.prog f
theorem CW {P:Program}{f:FuncId}{fn:Func}{c:Code}{args:List Value}{w:World}{R:Ending->World->Prop}(N:Nat)(hf:P.funcs[f]? =some fn)(h:WP P N c (aCk P fn.results R) (aWl args) w)(hb:fn.body=some c:=by exact rfl)(hN:fn.ntmps=N:=by exact rfl)(hl:Nat.ble args.length N=true:=by exact rfl):Calls P f args.toArray w R:=aUy N hf hb hN hl h
theorem mt {W:List Nat}{ρ ρ':Env}{G:Type}{S:G->List (Nat×Value)}{B:G->Prop}(g:G)(h:B g)(hs:Sl ρ' (S g):=by repeat (first |exact yS|refine yE rfl ?_))(hf:Fr W ρ ρ':=by repeat' (first |with_reducible exact aFh|refine aRl rfl ?_|refine aJe rfl rfl ?_)):Fr W ρ ρ'/\ ∃g,Sl ρ' (S g)/\B g:=⟨hf,g,hs,h⟩
theorem ml {W:List Nat}{ρ ρ':Env}{G:Type}{S:G->List (Nat×Value)}{B C:G->Prop}{μ:G->Nat}{n:Nat}(g:G)(h:B g)(c:C g)(hs:Sl ρ' (S g):=by repeat (first |exact yS|refine yE rfl ?_))(hn:μ g<n:=by exact Nat.lt_succ_self _)(hf:Fr W ρ ρ':=by repeat' (first |with_reducible exact aFh|refine aRl rfl ?_|refine aJe rfl rfl ?_)):Fr W ρ ρ'/\ ∃g,Sl ρ' (S g)/\(B g/\C g)/\μ g<n:=⟨hf,g,hs,⟨h,c⟩,hn⟩
def rg:List Nat->List Nat
 |a::n::l=>List.range' a n++rg l
 |_=>[]
section
variable {P:Program}{N:Nat}{ops:Array Oper}{Q Q':Exit->Env->World->Prop}{rest:List Oper}{ρ:Env}{w:World}{d:Nat}{op:Op}{ty:TypeId}{pos:String}{af:Array Edge}{gd:Option (Nat×Bool)}
theorem RLb {β:Type}{b:Bool}{k:Bool->Option β}{r:β}(a:gJ b k=some r)(hd:Do P ⟨some d,op,ty,pos,af,gd⟩ ρ w (vb b) w)(n: ∀x,k x=some r->RL P N ops Q rest (upd ρ d (vb x)) w)(hw:fV N ops ρ ⟨some d,op,ty,pos,af,gd⟩=true:=by exact rfl)(c:Nat.blt d N=true:=by exact rfl):RL P N ops Q (⟨some d,op,ty,pos,af,gd⟩::rest) ρ w:=tJ hw c hd (n b a)
theorem RLi {β:Type}{b:Int}{kk:IntKind}{k:Int->Option β}{r:β}(a:gJ b k=some r)(hd:Do P ⟨some d,op,ty,pos,af,gd⟩ ρ w (.int kk b) w)(n: ∀x,k x=some r->RL P N ops Q rest (upd ρ d (.int kk x)) w)(hw:fV N ops ρ ⟨some d,op,ty,pos,af,gd⟩=true:=by exact rfl)(c:Nat.blt d N=true:=by exact rfl):RL P N ops Q (⟨some d,op,ty,pos,af,gd⟩::rest) ρ w:=tJ hw c hd (n b a)
theorem WI {β:Type}{b:Bool}{x y:Option β}{r:β}{c:Operand}{s t:Code}(a:gQ b x y=some r)(hc:ev ρ c=vb b)(ht:x=some r->WP P N s Q ρ w)(hf:y=some r->WP P N t Q ρ w):WP P N (.cond c s t) Q ρ w:=WP_ifb hc (λc=>ht (aAj c a)) (λc=>hf (aAm c a))
theorem RI {β:Type}{b:Bool}{x y:Option β}{r:β}{z:Operand}(a:gQ b x y=some r)(hx:ev ρ z=vb b)(ht:x=some r->RL P N ops Q rest (upd ρ d (vb true)) w)(hf:y=some r->RL P N ops Q rest (upd ρ d (vb false)) w)(hw:fV N ops ρ ⟨some d,.move z,ty,pos,af,gd⟩=true:=by exact rfl)(e:Nat.blt d N=true:=by exact rfl):RL P N ops Q (⟨some d,.move z,ty,pos,af,gd⟩::rest) ρ w:=RL_splitb hw e hx (λc=>ht (aAj c a)) (λc=>hf (aAm c a))
theorem RC {f:FuncId}{args:Array Operand}{at_:Array TypeId}{vs:List Value}{v:Value}{O c S:List Nat}{b:World}{l:List Th}(he:Go.OB.Enters P f)(hc:Calls P f vs.toArray w λe a=>e= .returned v/\Hd c w a [] [])(H:Hd O b w S l)(k: ∀a,Hd O b a S l->RL P N ops Q rest (upd ρ d v) a)(ha:args.toList.map (ev ρ)=vs:=by exact rfl)(hw:fV N ops ρ ⟨some d,.call {callee:= .value (.func f),args:=args,argTypes:=at_},ty,pos,af,gd⟩=true:=by exact rfl)(h:Nat.blt d N=true:=by exact rfl):RL P N ops Q (⟨some d,.call {callee:= .value (.func f),args:=args,argTypes:=at_},ty,pos,af,gd⟩::rest) ρ w:=by
 refine xM hw h (yN he ha) hc ?_;rintro _ a ⟨rfl,G⟩;exact⟨_,rfl,k _ (H.step G.only)⟩
end
section
variable {P:Program}{N:Nat}{ops:Array Oper}{Q Q':Exit->Env->World->Prop}{rest:List Oper}{ρ:Env}{w:World}{d:Nat}{t u ty:TypeId}{x y:Operand}{pos:String}{af:Array Edge}{g:Option (Nat×Bool)}
def KK (P:Program)(N:Nat)(y:Code)(Q:Exit->Env->World->Prop):Env->World->Prop:=WP P N y Q
theorem SQ {x y:Code}(h:WP P N x (qG (KK P N y Q) Q) ρ w):WP P N (.seq x y) Q ρ w:=WP_seq h λ_ _ h=>h
theorem SR {id:Nat}{l:List Oper}{y:Code}(h:RL P N l.toArray (qG (KK P N y Q) Q) l ρ w):WP P N (.seq (.region id l.toArray false) y) Q ρ w:=SQ (zG h)
theorem RM {y:Code}(n:WP P N y Q ρ w):RL P N ops (qG (KK P N y Q) Q') [] ρ w:=yY (zH n)
theorem WZ {y:Code}(n:WP P N y Q ρ w):WP P N .skip (qG (KK P N y Q) Q') ρ w:=yK (zH n)
theorem KN {y:Code}(n:WP P N y Q ρ w):KK P N y Q ρ w:=n
theorem jn {K:Env->World->Prop}(n:K ρ w):RL P N ops (qG K Q') [] ρ w:=yY (zH n)
theorem js {K:Env->World->Prop}(n:K ρ w):WP P N .skip (qG K Q') ρ w:=yK (zH n)
theorem fP {a b:Int}{kk:IntKind}{β:Type}{k:Bool->Option β}{r:β}(c:gJ (decide (a<b)) k=some r)(n: ∀x,k x=some r->RL P N ops Q rest (upd ρ d (vb x)) w)(hx:ev ρ x= .int kk a:=by exact rfl)(hy:ev ρ y= .int kk b:=by exact rfl)(hw:fV N ops ρ ⟨some d,.binOp .lss t x y u,ty,pos,af,g⟩=true:=by exact rfl)(e:Nat.blt d N=true:=by exact rfl):RL P N ops Q (⟨some d,.binOp .lss t x y u,ty,pos,af,g⟩::rest) ρ w:=RLb c (Do_lss hx hy) n hw e
theorem aDr {a b:Int}{kk:IntKind}{β:Type}{k:Bool->Option β}{r:β}(c:gJ (decide (a<=b)) k=some r)(n: ∀x,k x=some r->RL P N ops Q rest (upd ρ d (vb x)) w)(hx:ev ρ x= .int kk a:=by exact rfl)(hy:ev ρ y= .int kk b:=by exact rfl)(hw:fV N ops ρ ⟨some d,.binOp .leq t x y u,ty,pos,af,g⟩=true:=by exact rfl)(e:Nat.blt d N=true:=by exact rfl):RL P N ops Q (⟨some d,.binOp .leq t x y u,ty,pos,af,g⟩::rest) ρ w:=RLb c (aTm hx hy) n hw e
theorem aW {a b:Int}{kk:IntKind}{β:Type}{k:Bool->Option β}{r:β}(c:gJ (decide (b<a)) k=some r)(n: ∀x,k x=some r->RL P N ops Q rest (upd ρ d (vb x)) w)(hx:ev ρ x= .int kk a:=by exact rfl)(hy:ev ρ y= .int kk b:=by exact rfl)(hw:fV N ops ρ ⟨some d,.binOp .gtr t x y u,ty,pos,af,g⟩=true:=by exact rfl)(e:Nat.blt d N=true:=by exact rfl):RL P N ops Q (⟨some d,.binOp .gtr t x y u,ty,pos,af,g⟩::rest) ρ w:=RLb c (vC hx hy) n hw e
theorem uI {a b:Int}{kk:IntKind}{β:Type}{k:Bool->Option β}{r:β}(c:gJ (decide (b<=a)) k=some r)(n: ∀x,k x=some r->RL P N ops Q rest (upd ρ d (vb x)) w)(hx:ev ρ x= .int kk a:=by exact rfl)(hy:ev ρ y= .int kk b:=by exact rfl)(hw:fV N ops ρ ⟨some d,.binOp .geq t x y u,ty,pos,af,g⟩=true:=by exact rfl)(e:Nat.blt d N=true:=by exact rfl):RL P N ops Q (⟨some d,.binOp .geq t x y u,ty,pos,af,g⟩::rest) ρ w:=RLb c (aNs hx hy) n hw e
theorem fD {a b:Int}{kk:IntKind}{β:Type}{k:Bool->Option β}{r:β}(c:gJ (decide (a=b)) k=some r)(n: ∀x,k x=some r->RL P N ops Q rest (upd ρ d (vb x)) w)(hx:ev ρ x= .int kk a:=by exact rfl)(hy:ev ρ y= .int kk b:=by exact rfl)(hw:fV N ops ρ ⟨some d,.binOp .eql t x y u,ty,pos,af,g⟩=true:=by exact rfl)(e:Nat.blt d N=true:=by exact rfl):RL P N ops Q (⟨some d,.binOp .eql t x y u,ty,pos,af,g⟩::rest) ρ w:=RLb c (aMm hx hy) n hw e
theorem aI {a b:Int}{kk:IntKind}{β:Type}{k:Bool->Option β}{r:β}(c:gJ (decide (a≠b)) k=some r)(n: ∀x,k x=some r->RL P N ops Q rest (upd ρ d (vb x)) w)(hx:ev ρ x= .int kk a:=by exact rfl)(hy:ev ρ y= .int kk b:=by exact rfl)(hw:fV N ops ρ ⟨some d,.binOp .neq t x y u,ty,pos,af,g⟩=true:=by exact rfl)(e:Nat.blt d N=true:=by exact rfl):RL P N ops Q (⟨some d,.binOp .neq t x y u,ty,pos,af,g⟩::rest) ρ w:=RLb c (Do_neq hx hy) n hw e
theorem fQ {a b:Int}{kk:IntKind}{β:Type}{k:Int->Option β}{r:β}(c:gJ (kk.wrap (a+b)) k=some r)(n: ∀x,k x=some r->RL P N ops Q rest (upd ρ d (.int kk x)) w)(hx:ev ρ x= .int kk a:=by exact rfl)(hy:ev ρ y= .int kk b:=by exact rfl)(hw:fV N ops ρ ⟨some d,.binOp .add t x y u,ty,pos,af,g⟩=true:=by exact rfl)(e:Nat.blt d N=true:=by exact rfl):RL P N ops Q (⟨some d,.binOp .add t x y u,ty,pos,af,g⟩::rest) ρ w:=RLi c (tV hx hy rfl) n hw e
theorem qM {a b:Int}{kk:IntKind}{β:Type}{k:Int->Option β}{r:β}(c:gJ (kk.wrap (a-b)) k=some r)(n: ∀x,k x=some r->RL P N ops Q rest (upd ρ d (.int kk x)) w)(hx:ev ρ x= .int kk a:=by exact rfl)(hy:ev ρ y= .int kk b:=by exact rfl)(hw:fV N ops ρ ⟨some d,.binOp .sub t x y u,ty,pos,af,g⟩=true:=by exact rfl)(e:Nat.blt d N=true:=by exact rfl):RL P N ops Q (⟨some d,.binOp .sub t x y u,ty,pos,af,g⟩::rest) ρ w:=RLi c (jQ hx hy rfl) n hw e
theorem xX {a b:Int}{kk:IntKind}{β:Type}{k:Int->Option β}{r:β}(c:gJ (kk.wrap (a*b)) k=some r)(n: ∀x,k x=some r->RL P N ops Q rest (upd ρ d (.int kk x)) w)(hx:ev ρ x= .int kk a:=by exact rfl)(hy:ev ρ y= .int kk b:=by exact rfl)(hw:fV N ops ρ ⟨some d,.binOp .mul t x y u,ty,pos,af,g⟩=true:=by exact rfl)(e:Nat.blt d N=true:=by exact rfl):RL P N ops Q (⟨some d,.binOp .mul t x y u,ty,pos,af,g⟩::rest) ρ w:=RLi c (aLb hx hy rfl) n hw e
theorem sJ {x y:Code}{O S:List Nat}{a b:World}{T:List Th}(_:Hd O a b S T)(W:List Nat)(l:List (Nat×Value))(h:WP P N x (qG (λρ' c=>Fr W ρ ρ'/\ ∃g:Unit,Sl ρ' ((λ_=>l) g)/\(λ_ wl=>Hd O a wl S T) g c) Q) ρ w)(k: ∀(_:Unit) ρ₁ w,Hd O a w S T->WP P N y Q (over ρ ρ₁ W l) w):WP P N (.seq x y) Q ρ w:=aSg W (λ_:Unit=>l) (λ_ wl=>Hd O a wl S T) h k
theorem bE {α β:Type}{p:Prop}{x:Option α}{f:α->Option β}{r:β}(h:gG x f=some r)(k: ∀y,x=some y->f y=some r->p):p:=(yR h).elim λy q=>k y q.1 q.2
theorem lE {α β:Type}{p:Prop}{x:α}{f:α->Option β}{r:β}(h:gJ x f=some r)(k: ∀y,x=y->f y=some r->p):p:=(letO_some h).elim λy q=>k y q.1 q.2
theorem XQ {I:World->Prop}{κ:List MxM.Kd}{K:MxM.Mm->Env->World->Prop}{k:Nat}{M:MxM.Mm}{σ:List Nat}{v:Value}{op:Op}(h: ∀{a},Do P ⟨some d,op,ty,pos,af,g⟩ ρ a v a)(n:MxM.XL P I N ops κ K M σ rest (upd ρ d v) w)(hk:MxM.kdOf κ k= .pure:=by exact rfl)(hw:fV N ops ρ ⟨some d,op,ty,pos,af,g⟩=true:=by exact rfl)(b:Nat.blt d N=true:=by exact rfl):MxM.XL P I N ops κ K M (k::σ) (⟨some d,op,ty,pos,af,g⟩::rest) ρ w:=MxM.XL_pure hk hw b (λ_ _=>h) n
theorem dJ {b:Bool}{β:Type}{k:Bool->Option β}{r:β}(a:gJ (!b) k=some r)(n: ∀x,k x=some r->RL P N ops Q rest (upd ρ d (vb x)) w)(hx:ev ρ x=vb b:=by exact rfl)(hw:fV N ops ρ ⟨some d,.unOp .not t x,ty,pos,af,g⟩=true:=by exact rfl)(c:Nat.blt d N=true:=by exact rfl):RL P N ops Q (⟨some d,.unOp .not t x,ty,pos,af,g⟩::rest) ρ w:=RLb a (aEl hx) n hw c
theorem pt (v:Value){z:Operand}(n:RL P N ops Q rest (upd ρ d v) w)(hx:ev ρ x=vb true:=by exact rfl)(hy:ev ρ y=v:=by exact rfl)(hw:fV N ops ρ ⟨some d,.pick x y z,ty,pos,af,g⟩=true:=by exact rfl)(a:Nat.blt d N=true:=by exact rfl):RL P N ops Q (⟨some d,.pick x y z,ty,pos,af,g⟩::rest) ρ w:=tJ hw a (nN hx hy) n
theorem pf (v:Value){z:Operand}(n:RL P N ops Q rest (upd ρ d v) w)(hx:ev ρ x=vb false:=by exact rfl)(hz:ev ρ z=v:=by exact rfl)(hw:fV N ops ρ ⟨some d,.pick x y z,ty,pos,af,g⟩=true:=by exact rfl)(a:Nat.blt d N=true:=by exact rfl):RL P N ops Q (⟨some d,.pick x y z,ty,pos,af,g⟩::rest) ρ w:=tJ hw a (qJ hx hz) n
theorem ix {α:Type}{L:List α}{i:Int}{z:α}{e:TypeId}{b o s c:Nat}{kk:IntKind}(hu:P.underlying t=some (.slice e))(hs:Sz P e s)(hx:ev ρ x= .slice (some ⟨b,o,none⟩) L.length c)(h:at' L i=some z)(n:RL P N ops Q rest (upd ρ d (.pointer (some ⟨b,o+i.toNat*s,none⟩))) w)(hy:ev ρ y= .int kk i:=by exact rfl)(hw:fV N ops ρ ⟨some d,.indexAddr t x y,ty,pos,af,g⟩=true:=by exact rfl)(a:Nat.blt d N=true:=by exact rfl):RL P N ops Q (⟨some d,.indexAddr t x y,ty,pos,af,g⟩::rest) ρ w:=tJ hw a (yZ hu hs hx hy (zV h).1 (zV h).2.1 rfl rfl) n
theorem lb {O S:List Nat}{a:World}{l:List Th}{b T n:Nat}{cs:List Value}(H:Hd O a w S l)(i:Nat)(h:l[i]? =some (.blk b cs T))(c:Agg P t)(hs:Sz P t n)(k:RL P N ops Q rest (upd ρ d (.agg cs.toArray)) w)(hx:ev ρ x= .pointer (some ⟨b,0,none⟩):=by exact rfl)(hl:cs.length=n:=by exact rfl)(hw:fV N ops ρ ⟨some d,.load t x,ty,pos,af,g⟩=true:=by exact rfl)(e:Nat.blt d N=true:=by exact rfl):RL P N ops Q (⟨some d,.load t x,ty,pos,af,g⟩::rest) ρ w:=tJ hw e (zZ c hx hs hl (Blk.cells (H.V h))) k
theorem WJ {β:Type}{b:Bool}{x y:Option β}{r:β}{c:Operand}{s t:Code}(a:gQ b x y=some r)(ht:x=some r->WP P N s Q ρ w)(hf:y=some r->WP P N t Q ρ w)(hc:ev ρ c=vb b:=by exact rfl):WP P N (.cond c s t) Q ρ w:=WI a hc ht hf
theorem RJ {β:Type}{b:Bool}{x y:Option β}{r:β}{z:Operand}(a:gQ b x y=some r)(ht:x=some r->RL P N ops Q rest (upd ρ d (vb true)) w)(hf:y=some r->RL P N ops Q rest (upd ρ d (vb false)) w)(hx:ev ρ z=vb b:=by exact rfl)(hw:fV N ops ρ ⟨some d,.move z,ty,pos,af,g⟩=true:=by exact rfl)(c:Nat.blt d N=true:=by exact rfl):RL P N ops Q (⟨some d,.move z,ty,pos,af,g⟩::rest) ρ w:=RI a hx ht hf hw c
end
abbrev Sm {O S:List Nat}{v w:World}{l:List Th}(_:Hd O v w S l)(w':World)(l':List Th):Prop:=Hd O v w' S l'
section
variable {P:Program}{N:Nat}{Q:Exit->Env->World->Prop}{ρ:Env}{w wo:World}{O S:List Nat}{T:List Th}{X Y β:Type}{r:β}{c x y:Code}
abbrev pj (J:List Nat)(t T:List Th):=Go.Lf.pick J (t++T)
theorem jo (_:Hd O wo w S T)(W:List Nat)(l:Y->List (Nat×Value))(t:Y->List Th)(J:List Nat)(h:WP P N x (qG (λρ' a=>Fr W ρ ρ'/\ ∃z:Y,Sl ρ' (l z)/\Hd O wo a S (pj J (t z) T)) Q) ρ w)(k: ∀z ρ₁ w,Hd O wo w S (pj J (t z) T)->WP P N y Q (over ρ ρ₁ W (l z)) w):WP P N (.seq x y) Q ρ w:=aSg W l (λz wl=>Hd O wo wl S (pj J (t z) T)) h k
theorem jk {b:X->Option β}{m:(X->Option β)->Option β}(a:eY b m=some r)(_:Hd O wo w S T)(W:List Nat)(l:X->Y->List (Nat×Value))(t:X->Y->List Th)(J:List Nat)(h: ∀k:X->Option β,m k=some r->WP P N x (qG (λρ' c=>Fr W ρ ρ'/\ ∃u v,Sl ρ' (l u v)/\Hd O wo c S (pj J (t u v) T)/\k u=some r) Q) ρ w)(k: ∀u v ρ₁ w,Hd O wo w S (pj J (t u v) T)->b u=some r->WP P N y Q (over ρ ρ₁ W (l u v)) w):WP P N (.seq x y) Q ρ w:=by
 refine aSg (G:=X×Y) W (λg=>l g.1 g.2) (λg wl=>Hd O wo wl S (pj J (t g.1 g.2) T)/\b g.1=some r) ((h b a).mono ?_) (λg ρ₁ w hg=>k g.1 g.2 ρ₁ w hg.1 hg.2);intro e ρ' c hq
 cases e<;>first |(obtain⟨d,u,v,f,i,j⟩:=hq;exact⟨d,(u,v),f,i,j⟩)|exact hq
theorem lo {b:(X->Option β)->X->Option β}{d:X}(a:fB b d=some r)(_:Hd O wo w S T)(W:List Nat)(l:X->Y->List (Nat×Value))(t:X->Y->List Th)(J:List Nat)(f:Y)(j:Hd O wo w S (pj J (t d f) T))(n: ∀k u v ρ₁ w,Hd O wo w S (pj J (t u v) T)->b k u=some r->WP P N c (qG (λρ' i=>Fr W ρ ρ'/\ ∃u v,Sl ρ' (l u v)/\Hd O wo i S (pj J (t u v) T)/\k u=some r) Q) (over ρ ρ₁ W (l u v)) w)(hs:Sl ρ (l d f):=by repeat (first |exact yS|refine yE rfl ?_)):WP P N (.loop c) Q ρ w:=by
 obtain⟨B,m,rfl,o⟩:=bAl a;refine WP_loopS (G:=Nat×X×Y) W (λg=>l g.2.1 g.2.2) (λg wl=>Hd O wo wl S (pj J (t g.2.1 g.2.2) T)/\eQ B g.1 g.2.1=some r) (λg=>g.1) (m,d,f) hs ⟨j,o⟩ ?_;rintro⟨m,u,v⟩ ρ₁ w ⟨p,h⟩;obtain⟨m,rfl,h⟩:=loopN_pos h;refine(n (eQ B m) u v ρ₁ w p h).mono ?_;intro e ρ' i hq
 cases e<;>first |(obtain⟨q,u',v',s,x,y⟩:=hq;exact⟨q,(m,u',v'),s,⟨x,y⟩,Nat.lt_succ_self _⟩)|exact hq
theorem me {W:List Nat}{ρ ρ':Env}{k:X->Option β}{l:X->Y->List (Nat×Value)}{B:X->Y->Prop}{u:X}(a:k u=some r)(y:Y)(h:B u y)(hs:Sl ρ' (l u y):=by repeat (first |exact yS|refine yE rfl ?_))(hf:Fr W ρ ρ':=by repeat' (first |with_reducible exact aFh|refine aRl rfl ?_|refine aJe rfl rfl ?_)):Fr W ρ ρ'/\ ∃u v,Sl ρ' (l u v)/\B u v/\k u=some r:=⟨hf,u,y,hs,h,a⟩
end
section
variable {P:Program}{N:Nat}{ops:Array Oper}{Q:Exit->Env->World->Prop}{rest:List Oper}{ρ:Env}{w wo:World}{d dd:Nat}{op:Op}{t e tt uu ty tyy:TypeId}{x y xx:Operand}{pos poo:String}{af aff:Array Edge}{g gg:Option (Nat×Bool)}{f:FuncId}{args:Array Operand}{at_:Array TypeId}{vs:List Value}{O S:List Nat}{l:List Th}{α β A B C D:Type}{r:β}{v:Value}
theorem xu {R:World->Prop}(h: ∃a,DoU P ⟨none,op,ty,pos,af,g⟩ ρ w a/\R a)(k: ∀a,R a->RL P N ops Q rest ρ a)(hw:fV N ops ρ ⟨none,op,ty,pos,af,g⟩=true:=by exact rfl):RL P N ops Q (⟨none,op,ty,pos,af,g⟩::rest) ρ w:=RL_exU hw h k
theorem xv {R:Value->World->Prop}(h: ∃v a,Do P ⟨some d,op,ty,pos,af,g⟩ ρ w v a/\R v a)(k: ∀v a,R v a->RL P N ops Q rest (upd ρ d v) a)(hw:fV N ops ρ ⟨some d,op,ty,pos,af,g⟩=true:=by exact rfl)(hd:Nat.blt d N=true:=by exact rfl):RL P N ops Q (⟨some d,op,ty,pos,af,g⟩::rest) ρ w:=aFb hw hd h k
theorem xb {R:Nat->World->Prop}(h: ∃v a,Do P ⟨some d,op,ty,pos,af,g⟩ ρ w v a/\ ∃b,v= .pointer (some ⟨b,0,none⟩)/\R b a)(k: ∀b a,R b a->RL P N ops Q rest (upd ρ d (.pointer (some ⟨b,0,none⟩))) a)(hw:fV N ops ρ ⟨some d,op,ty,pos,af,g⟩=true:=by exact rfl)(hd:Nat.blt d N=true:=by exact rfl):RL P N ops Q (⟨some d,op,ty,pos,af,g⟩::rest) ρ w:=aFb hw hd h λ_ _ ⟨b,e,q⟩=>e▸k b _ q
theorem ln {L:List α}{rr:Rp α}{F:Nat->Prop}{k:Int->Option β}{b:World}(f:gJ (L.length:Int) k=some r)(h:SlF rr F b v L)(hu:P.underlying t=some (.slice e))(n: ∀x,k x=some r->RL P N ops Q rest (upd ρ d (.int .i64 x)) w)(hx:ev ρ x=v:=by exact rfl)(hw:fV N ops ρ ⟨some d,.call {callee:= .builtin .len,args:= #[x],argTypes:= #[t]},ty,pos,af,g⟩=true:=by exact rfl)(i:Nat.blt d N=true:=by exact rfl):RL P N ops Q (⟨some d,.call {callee:= .builtin .len,args:= #[x],argTypes:= #[t]},ty,pos,af,g⟩::rest) ρ w:=by
 obtain⟨a,c,q⟩:=SlF.len h;exact tJ hw i (aO hu (hx.trans q)) (n _ f)
theorem lr {L:List α}{R:Go.Lf.Rt α}{D:Hol}{bs:List Nat}{F:Nat->Prop}{k:Int->Option β}{b:World}(f:gJ (L.length:Int) k=some r)(h:(Rt.row R uu D).rd F b [v] bs L)(hu:P.underlying t=some (.slice e))(n: ∀x,k x=some r->RL P N ops Q rest (upd ρ d (.int .i64 x)) w)(hx:ev ρ x=v:=by exact rfl)(hw:fV N ops ρ ⟨some d,.call {callee:= .builtin .len,args:= #[x],argTypes:= #[t]},ty,pos,af,g⟩=true:=by exact rfl)(i:Nat.blt d N=true:=by exact rfl):RL P N ops Q (⟨some d,.call {callee:= .builtin .len,args:= #[x],argTypes:= #[t]},ty,pos,af,g⟩::rest) ρ w:=by
 obtain⟨a,c,q⟩:=jT h;exact tJ hw i (aO hu (hx.trans q)) (n _ f)
theorem rea {L:List α}{a:α}{rr:Rp α}{j:Int}{kk:IntKind}(H:Hd O wo w S l)(k:SlF rr (frees O l) w v L)(z:Value)(h:at' L j=some a)(hu:P.underlying t=some (.slice e))(hs:Sz P e 1)(p:aDp P tt)(n: ∀b o,Hd O wo w S (l++[.fz (.at b (o+j.toNat*1) [z])])->RL P N ops Q rest (upd (upd ρ d (.pointer (some ⟨b,o+j.toNat*1,none⟩))) dd z) w)(hc: ∀F w cs,rr.rd F w cs a->cs=[z]:=by exact λ_ _ _ h=>h)(r:rr.sz=1:=by exact rfl)(hx:ev ρ x=v:=by exact rfl)(hy:ev ρ y= .int kk j:=by exact rfl)(s: ∀q,ev (upd ρ d q) xx=q:=by exact λ_=>rfl)(hw:fV N ops ρ ⟨some d,.indexAddr t x y,ty,pos,af,g⟩=true:=by exact rfl)(hd:Nat.blt d N=true:=by exact rfl)(hv: ∀q,fV N ops (upd ρ d q) ⟨some dd,.load tt xx,tyy,poo,aff,gg⟩=true:=by exact λ_=>rfl)(u:Nat.blt dd N=true:=by exact rfl):RL P N ops Q (⟨some d,.indexAddr t x y,ty,pos,af,g⟩::⟨some dd,.load tt xx,tyy,poo,aff,gg⟩::rest) ρ w:=by
 obtain⟨b,o,c,cs,q,A,B,C,f⟩:=yV k h;obtain rfl:=hc _ _ _ A;rw [r]at f;refine tJ hw hd (yZ hu hs (hx.trans q) hy (zV h).1 (zV h).2.1 rfl rfl) (tJ (hv _) u (yD p (s _) (Cells.get f (i:=0) rfl)) ?_);exact n b o (H.fz (.at b (o+j.toNat*1) [z]) ⟨B,C,f⟩)
theorem cAz {V:Value}{R:World->Prop}(he:Go.OB.Enters P f)(hc:Calls P f vs.toArray w λe a=>e= .returned V/\R a)(n: ∀a,R a->RL P N ops Q rest (upd ρ d V) a)(ha:args.toList.map (ev ρ)=vs:=by exact rfl)(hw:fV N ops ρ ⟨some d,.call {callee:= .value (.func f),args:=args,argTypes:=at_},ty,pos,af,g⟩=true:=by exact rfl)(b:Nat.blt d N=true:=by exact rfl):RL P N ops Q (⟨some d,.call {callee:= .value (.func f),args:=args,argTypes:=at_},ty,pos,af,g⟩::rest) ρ w:=xM hw b (yN he ha) hc λ_ _ ⟨e,q⟩=>⟨_,e,n _ q⟩
theorem cAa {V:A->Value}{R:A->World->Prop}(he:Go.OB.Enters P f)(hc:Calls P f vs.toArray w λe b=> ∃a,e= .returned (V a)/\R a b)(n: ∀a b,R a b->RL P N ops Q rest (upd ρ d (V a)) b)(ha:args.toList.map (ev ρ)=vs:=by exact rfl)(hw:fV N ops ρ ⟨some d,.call {callee:= .value (.func f),args:=args,argTypes:=at_},ty,pos,af,g⟩=true:=by exact rfl)(c:Nat.blt d N=true:=by exact rfl):RL P N ops Q (⟨some d,.call {callee:= .value (.func f),args:=args,argTypes:=at_},ty,pos,af,g⟩::rest) ρ w:=xM hw c (yN he ha) hc λ_ _ ⟨a,e,q⟩=>⟨_,e,n a _ q⟩
theorem cAb {V:A->B->Value}{R:A->B->World->Prop}(he:Go.OB.Enters P f)(hc:Calls P f vs.toArray w λe c=> ∃a b,e= .returned (V a b)/\R a b c)(n: ∀a b c,R a b c->RL P N ops Q rest (upd ρ d (V a b)) c)(ha:args.toList.map (ev ρ)=vs:=by exact rfl)(hw:fV N ops ρ ⟨some d,.call {callee:= .value (.func f),args:=args,argTypes:=at_},ty,pos,af,g⟩=true:=by exact rfl)(h:Nat.blt d N=true:=by exact rfl):RL P N ops Q (⟨some d,.call {callee:= .value (.func f),args:=args,argTypes:=at_},ty,pos,af,g⟩::rest) ρ w:=xM hw h (yN he ha) hc λ_ _ ⟨a,b,e,q⟩=>⟨_,e,n a b _ q⟩
theorem cAc {V:A->B->C->Value}{R:A->B->C->World->Prop}(he:Go.OB.Enters P f)(hc:Calls P f vs.toArray w λe h=> ∃a b c,e= .returned (V a b c)/\R a b c h)(n: ∀a b c h,R a b c h->RL P N ops Q rest (upd ρ d (V a b c)) h)(ha:args.toList.map (ev ρ)=vs:=by exact rfl)(hw:fV N ops ρ ⟨some d,.call {callee:= .value (.func f),args:=args,argTypes:=at_},ty,pos,af,g⟩=true:=by exact rfl)(i:Nat.blt d N=true:=by exact rfl):RL P N ops Q (⟨some d,.call {callee:= .value (.func f),args:=args,argTypes:=at_},ty,pos,af,g⟩::rest) ρ w:=xM hw i (yN he ha) hc λ_ _ ⟨a,b,c,e,q⟩=>⟨_,e,n a b c _ q⟩
theorem cAd {V:A->B->C->D->Value}{R:A->B->C->D->World->Prop}(he:Go.OB.Enters P f)(hc:Calls P f vs.toArray w λe h=> ∃a b c z,e= .returned (V a b c z)/\R a b c z h)(n: ∀a b c z h,R a b c z h->RL P N ops Q rest (upd ρ d (V a b c z)) h)(ha:args.toList.map (ev ρ)=vs:=by exact rfl)(hw:fV N ops ρ ⟨some d,.call {callee:= .value (.func f),args:=args,argTypes:=at_},ty,pos,af,g⟩=true:=by exact rfl)(i:Nat.blt d N=true:=by exact rfl):RL P N ops Q (⟨some d,.call {callee:= .value (.func f),args:=args,argTypes:=at_},ty,pos,af,g⟩::rest) ρ w:=xM hw i (yN he ha) hc λ_ _ ⟨a,b,c,z,e,q⟩=>⟨_,e,n a b c z _ q⟩
abbrev KOne (rr:Rp α)(f:α->Value):Prop:=(∀F w c x,rr.rd F w c x↔c=[f x])/\rr.sz=1/\ ∀x,(f x).cells= #[f x]
theorem aXv:KOne Rp.str (λs=> .string (bs s)):=⟨λ_ _ _ _=>Iff.rfl,rfl,λ_=>rfl⟩
theorem aLi:KOne (Rp.int .i64) (.int .i64):=⟨λ_ _ _ _=>Iff.rfl,rfl,λ_=>rfl⟩
theorem ll {rr:Rp α}{f:α->Value}(k:KOne rr f){len bytes:Nat}{zs:List Value}{parts:Array (Nat×Operand)}(xl:List α)(hu:P.underlying t=some (.slice e))(he:El P e rr.sz bytes zs)(H:Hd O wo w S l)(hn:xl.length=len:=by exact rfl)(hp:Nat.blt 0 len=true:=by exact rfl)(hs:Nat.ble len 16777216=true:=by exact rfl)(hi:parts.toList.map Prod.fst=List.range len:=by exact rfl)(hv:parts.toList.map (λp=>ev ρ p.2)=xl.map f:=by exact rfl): ∃v b,Do P ⟨some d,.buildSlice t len parts,ty,pos,af,g⟩ ρ w v b/\fK w b/\Hd O wo b S (l++[.own rr v e xl]):=by
 obtain⟨hl,a,hc⟩:=k;have j: ∀xl:List α,aXb 1 (xl.map f):=λxl=>by
  induction xl with
  |nil=>exact True.intro
  |cons x xl ih=>exact⟨by rw [hc];rfl,ih⟩
 have n: ∀xl:List α,rows rr (frees O l) w (xl.map f) xl:=λxl=>by
  induction xl with
  |nil=>rfl
  |cons x xl ih=>exact⟨[f x],_,rfl,(hl _ _ _ _).2 rfl,ih⟩
 have o:(xl.map f).flatMap (λv=>v.cells.toList)=xl.map f:=by
  clear hn hv
  induction xl with
  |nil=>rfl
  |cons x xl ih=>rw [List.map_cons,List.flatMap_cons,ih,hc];rfl
 have c:len*rr.sz<=16777216:=by rw [a,Nat.mul_one];exact Nat.le_of_ble_eq_true hs
 have h:0<len*rr.sz:=by rw [a,Nat.mul_one];exact Nat.le_of_ble_eq_true hp
 have i:uA rr.sz len zs (parts.toList.map λp=>(p.1,ev ρ p.2))=some (xl.map f):=xO (by rw [a];decide) hi hv (by rw [a];exact j xl) o;exact mM (Lx_bs hu he c h hn i H (n xl)) (aBe hu he c h i)
theorem snd3 {R Y Z:Value->World->Prop}(h: ∃v c,R v c/\Y v c/\Z v c): ∃v c,R v c/\Z v c:=let ⟨v,c,a,_,b⟩:=h;⟨v,c,a,b⟩
theorem kl {rr:Rp α}{f:α->Value}(k:KOne rr f){len bytes:Nat}{zs:List Value}{parts:Array (Nat×Operand)}(xl:List α)(hu:P.underlying t=some (.slice e))(he:El P e rr.sz bytes zs)(H:Hd O wo w S l)(hn:xl.length=len:=by exact rfl)(hp:Nat.blt 0 len=true:=by exact rfl)(hs:Nat.ble len 16777216=true:=by exact rfl)(hi:parts.toList.map Prod.fst=List.range len:=by exact rfl)(hv:parts.toList.map (λp=>ev ρ p.2)=xl.map f:=by exact rfl): ∃v a,Do P ⟨some d,.buildSlice t len parts,ty,pos,af,g⟩ ρ w v a/\Hd O wo a S (l++[.own rr v e xl]):=snd3 (ll k xl hu he H hn hp hs hi hv)
theorem lOne (rr:Rp α)(x:α)(cs:List Value){bytes:Nat}{zs:List Value}{q:Operand}(hu:P.underlying t=some (.slice e))(he:El P e rr.sz bytes zs)(hr:rr.rd (frees O l) w cs x)(H:Hd O wo w S l)(a:cs.length=rr.sz:=by exact rfl)(c:Nat.blt 0 cs.length=true:=by exact rfl)(j:Nat.ble cs.length 16777216=true:=by exact rfl)(hv:ev ρ q= .agg cs.toArray:=by exact rfl): ∃v b,Do P ⟨some d,.buildSlice t 1 #[(0,q)],ty,pos,af,g⟩ ρ w v b/\fK w b/\Hd O wo b S (l++[.own rr v e [x]]):=by
 have f:1*rr.sz<=16777216:=by rw [<-a,Nat.one_mul];exact Nat.le_of_ble_eq_true j
 have h:0<1*rr.sz:=by rw [<-a,Nat.one_mul];exact Nat.le_of_ble_eq_true c
 have i:uA rr.sz 1 zs ((#[(0,q)]:Array (Nat×Operand)).toList.map λp=>(p.1,ev ρ p.2))=some cs:=xO (vs:=[.agg cs.toArray]) (by rw [<-a];exact Nat.le_of_ble_eq_true c) rfl (by simp [hv]) ⟨by rw [<-a];simp [Value.cells],T1⟩ (by simp [Value.cells]);exact mM (Lx_bs hu he f h rfl i H ⟨cs,[],by simp,hr,rfl⟩) (aBe hu he f h i)
theorem aIq (rr:Rp α)(x:α)(cs:List Value){bytes:Nat}{zs:List Value}{q:Operand}(hu:P.underlying t=some (.slice e))(he:El P e rr.sz bytes zs)(hr:rr.rd (frees O l) w cs x)(H:Hd O wo w S l)(b:cs.length=rr.sz:=by exact rfl)(c:Nat.blt 0 cs.length=true:=by exact rfl)(f:Nat.ble cs.length 16777216=true:=by exact rfl)(hv:ev ρ q= .agg cs.toArray:=by exact rfl): ∃v a,Do P ⟨some d,.buildSlice t 1 #[(0,q)],ty,pos,af,g⟩ ρ w v a/\Hd O wo a S (l++[.own rr v e [x]]):=snd3 (lOne rr x cs hu he hr H b c f hv)
theorem Xu {κ:List MxM.Kd}{K:MxM.Mm->Env->World->Prop}{k:Nat}{M:MxM.Mm}{σ Si:List Nat}{vo:World}{R:World->World->Prop}(h: ∀b,fK w b-> ∃a,DoU P ⟨none,op,ty,pos,af,g⟩ ρ b a/\R b a)(n: ∀b a,fK w b->R b a->MxM.XL P (λa=>Only Si vo a) N ops κ K none σ rest ρ a)(ho: ∀b a,R b a->Only Si vo a:=by exact λ_ _ h=>h.only)(hk:MxM.kdOf κ k= .eff:=by exact rfl)(hw:fV N ops ρ ⟨none,op,ty,pos,af,g⟩=true:=by exact rfl):MxM.XL P (λa=>Only Si vo a) N ops κ K M (k::σ) (⟨none,op,ty,pos,af,g⟩::rest) ρ w:=MxM.XL_exU oS hk hw h λ_ _ s q=>⟨ho _ _ q,n _ _ s q⟩
theorem Xe {κ:List MxM.Kd}{K:MxM.Mm->Env->World->Prop}{k:Nat}{M:MxM.Mm}{σ Si:List Nat}{vo:World}{R:World->Value->World->Prop}(h: ∀b,fK w b-> ∃v a,Do P ⟨some d,op,ty,pos,af,g⟩ ρ b v a/\R b v a)(n: ∀b v a,fK w b->R b v a->MxM.XL P (λa=>Only Si vo a) N ops κ K none σ rest (upd ρ d v) a)(ho: ∀b v a,R b v a->Only Si vo a:=by exact λ_ _ _ h=>h.only)(hk:MxM.kdOf κ k= .eff:=by exact rfl)(hw:fV N ops ρ ⟨some d,op,ty,pos,af,g⟩=true:=by exact rfl)(hd:Nat.blt d N=true:=by exact rfl):MxM.XL P (λa=>Only Si vo a) N ops κ K M (k::σ) (⟨some d,op,ty,pos,af,g⟩::rest) ρ w:=MxM.XL_ex oS hk hw hd h λ_ _ _ s q=>⟨ho _ _ _ q,n _ _ _ s q⟩
theorem Xf {κ:List MxM.Kd}{K:MxM.Mm->Env->World->Prop}{k:Nat}{M:MxM.Mm}{σ Si:List Nat}{vo:World}{R:World->Value->World->α->Prop}(h: ∀c,fK w c-> ∃v b,Do P ⟨some d,op,ty,pos,af,g⟩ ρ c v b/\ ∃a,R c v b a)(n: ∀c v b,fK w c-> ∀a,R c v b a->MxM.XL P (λb=>Only Si vo b) N ops κ K none σ rest (upd ρ d v) b)(ho: ∀c v b a,R c v b a->Only Si vo b:=by exact λ_ _ _ _ h=>h.only)(hk:MxM.kdOf κ k= .eff:=by exact rfl)(hw:fV N ops ρ ⟨some d,op,ty,pos,af,g⟩=true:=by exact rfl)(hd:Nat.blt d N=true:=by exact rfl):MxM.XL P (λb=>Only Si vo b) N ops κ K M (k::σ) (⟨some d,op,ty,pos,af,g⟩::rest) ρ w:=MxM.XL_ex oS hk hw hd h λ_ _ _ s ⟨_,q⟩=>⟨ho _ _ _ _ q,n _ _ _ s _ q⟩
end
abbrev Cl (f:Nat)(a:List Value)(w:World)(R:Ending->World->Prop):Prop:=Calls Tryz.prog f a.toArray w R
abbrev Rt (f:Nat)(a:List Value)(v:Value)(w:World)(O S:List Nat)(L:List Th):Prop:=Cl f a w λe h=>e= .returned v/\Hd O w h S L
abbrev i6 (n:Int):Value:= .int .i64 n
abbrev sb (s:Str):Value:= .string (bs s)
abbrev f1 {α:Type}(r:Rp α)(v:Value)(l:List α):Th:= .fz (.sl r v l)
theorem Hbc {O S:List Nat}{a w:World}{l:List Th}{b:Nat}{T:TypeId}{cs:List Value}(H:Hd O a w S l)(i:Nat)(h:l[i]? =some (.blk b cs T)):Cells w ⟨b,0,none⟩ cs:=Blk.cells (H.V h)
theorem Hbg {O S:List Nat}{a w:World}{l:List Th}{b:Nat}{T:TypeId}{cs:List Value}{v:Value}(H:Hd O a w S l)(i j:Nat)(h:l[i]? =some (.blk b cs T))(c:cs[j]? =some v):w.cell? ⟨b,0+j,none⟩=some v:=Cells.get (Blk.cells (H.V h)) c
theorem XP {P:Program}{I:World->Prop}{N:Nat}{ops:Array Oper}{κ:List MxM.Kd}{K:MxM.Mm->Env->World->Prop}{k:Nat}{M:MxM.Mm}{σ:List Nat}{rest:List Oper}{ρ:Env}{w:World}{d:Nat}{ty:TypeId}{pos:String}{af:Array Edge}{g:Option (Nat×Bool)}{v:Value}{op:Op}(h: ∀a,I a->Do P ⟨some d,op,ty,pos,af,g⟩ ρ a v a)(n:MxM.XL P I N ops κ K M σ rest (upd ρ d v) w)(hk:MxM.kdOf κ k= .pure:=by exact rfl)(hw:fV N ops ρ ⟨some d,op,ty,pos,af,g⟩=true:=by exact rfl)(hd:Nat.blt d N=true:=by exact rfl):MxM.XL P I N ops κ K M (k::σ) (⟨some d,op,ty,pos,af,g⟩::rest) ρ w:=MxM.XL_pure hk hw hd h n
theorem XO {P:Program}{I:World->Prop}{N:Nat}{ops:Array Oper}{κ:List MxM.Kd}{K:MxM.Mm->Env->World->Prop}{k:Nat}{M:MxM.Mm}{σ:List Nat}{rest:List Oper}{ρ:Env}{w:World}{d:Nat}{ty:TypeId}{pos:String}{af:Array Edge}{g:Option (Nat×Bool)}{op:Op}(n:MxM.XL P I N ops κ K M σ rest (upd ρ d undef) w)(hk:MxM.kdOf κ k= .pure:=by exact rfl)(hw:fV N ops ρ ⟨some d,op,ty,pos,af,g⟩=false:=by exact rfl)(hd:Nat.blt d N=true:=by exact rfl):MxM.XL P I N ops κ K M (k::σ) (⟨some d,op,ty,pos,af,g⟩::rest) ρ w:=MxM.XL_offp hk hw hd n
theorem XM {P:Program}{I:World->Prop}{N:Nat}{ops:Array Oper}{κ:List MxM.Kd}{K:MxM.Mm->Env->World->Prop}{k:Nat}{M:MxM.Mm}{σ:List Nat}{rest:List Oper}{ρ:Env}{w:World}{d:Nat}{ty:TypeId}{pos:String}{af:Array Edge}{g:Option (Nat×Bool)}{x:Operand}(v:Value)(n:MxM.XL P I N ops κ K M σ rest (upd ρ d v) w)(hx:ev ρ x=v:=by exact rfl)(hk:MxM.kdOf κ k= .pure:=by exact rfl)(hw:fV N ops ρ ⟨some d,.move x,ty,pos,af,g⟩=true:=by exact rfl)(hd:Nat.blt d N=true:=by exact rfl):MxM.XL P I N ops κ K M (k::σ) (⟨some d,.move x,ty,pos,af,g⟩::rest) ρ w:=MxM.XL_pure hk hw hd (λ_ _=>aJy hx) n
theorem XR {P:Program}{c:World}{e:List Nat}{N:Nat}{ops:Array Oper}{κ:List MxM.Kd}{K:MxM.Mm->Env->World->Prop}{k:Nat}{M:MxM.Mm}{σ:List Nat}{rest:List Oper}{ρ:Env}{w:World}{d:Nat}{ty:TypeId}{pos:String}{af:Array Edge}{g:Option (Nat×Bool)}{t:TypeId}{x:Operand}{O S:List Nat}{f:World}{l:List Th}{b:Nat}{T:TypeId}{cs:List Value}{v:Value}(o:aDp P t)(H:Hd O f w S l)(i j:Nat)(h:l[i]? =some (.blk b cs T))(p:cs[j]? =some v)(n:MxM.XL P (λa=>Only e c a) N ops κ K M σ rest (upd ρ d v) w)(hx:ev ρ x= .pointer (some ⟨b,0+j,none⟩):=by exact rfl)(hk:MxM.kdOf κ k= .read:=by exact rfl)(hw:fV N ops ρ ⟨some d,.load t x,ty,pos,af,g⟩=true:=by exact rfl)(hd:Nat.blt d N=true:=by exact rfl):MxM.XL P (λa=>Only e c a) N ops κ K M (k::σ) (⟨some d,.load t x,ty,pos,af,g⟩::rest) ρ w:=MxM.yX oS hk hw hd (λ_ q=>yD o hx (Hbg (H.Z q) i j h p)) n
theorem Ld {P:Program}{N:Nat}{ops:Array Oper}{Q:Exit->Env->World->Prop}{rest:List Oper}{ρ:Env}{w:World}{d:Nat}{t ty:TypeId}{x:Operand}{pos:String}{af:Array Edge}{g:Option (Nat×Bool)}{O S:List Nat}{a:World}{l:List Th}{b:Nat}{T:TypeId}{cs:List Value}{v:Value}(o:aDp P t)(H:Hd O a w S l)(i j:Nat)(h:l[i]? =some (.blk b cs T))(c:cs[j]? =some v)(k:RL P N ops Q rest (upd ρ d v) w)(hx:ev ρ x= .pointer (some ⟨b,0+j,none⟩):=by exact rfl)(hw:fV N ops ρ ⟨some d,.load t x,ty,pos,af,g⟩=true:=by exact rfl)(hd:Nat.blt d N=true:=by exact rfl):RL P N ops Q (⟨some d,.load t x,ty,pos,af,g⟩::rest) ρ w:=zM (yD o hx (Hbg H i j h c)) k hw hd
theorem fF {f:FuncId}{fn:Func}(h:Tryz.prog.funcs[f]? =some fn)(a:fn.body.isSome=true:=by exact rfl)(b:(fn.name== "runtime.NumGoroutine")=false:=by kernel_rfl):Go.OB.Enters Tryz.prog f:=⟨_,h,a,b⟩
theorem u3:Tryz.prog.underlying 3=some (.int .i64):=Tryz.underlying3
theorem u4:Tryz.prog.underlying 4=some .bool:=Tryz.underlying4
theorem u9:Tryz.prog.underlying 9=some .string:=Tryz.underlying9
theorem u22:Tryz.prog.underlying 22=some (.slice 38):=Tryz.underlying22
theorem u23:Tryz.prog.underlying 23=some (.slice 9):=Tryz.underlying23
theorem u24:Tryz.prog.underlying 24=some (.slice 71):=Tryz.underlying24
theorem u25:Tryz.prog.underlying 25=some (.slice 49):=Tryz.underlying25
theorem u28:Tryz.prog.underlying 28=some (.slice 77):=Tryz.underlying28
theorem u36:Tryz.prog.underlying 36=some (.slice 84):=Tryz.underlying36
theorem u45:Tryz.prog.underlying 45=some (.slice 47):=Tryz.underlying45
theorem u52:Tryz.prog.underlying 52=some (.slice 3):=Tryz.underlying52
theorem u58:Tryz.prog.underlying 58=some (.int .u64):=Tryz.underlying58
theorem u66:Tryz.prog.underlying 66=some (.slice 63):=Tryz.underlying66
theorem u80:Tryz.prog.underlying 80=some (.slice 87):=Tryz.underlying80
theorem u88:Tryz.prog.underlying 88=some (.slice 4):=Tryz.underlying88
theorem u91:Tryz.prog.underlying 91=some (.slice 97):=Tryz.underlying91
theorem u93:Tryz.prog.underlying 93=some (.slice 52):=Tryz.underlying93
theorem aDo:Tryz.prog.underlying 113=some (.slice 159):=Tryz.underlying113
theorem aVi:Tryz.prog.underlying 122=some (.slice 233):=Tryz.underlying122
theorem vT:Tryz.prog.underlying 123=some (.slice 240):=Tryz.underlying123
theorem aHf:Tryz.prog.underlying 126=some (.slice 125):=Tryz.underlying126
theorem u131:Tryz.prog.underlying 131=some (.int .u64):=Tryz.underlying131
theorem u144:Tryz.prog.underlying 144=some (.pointer 84):=Tryz.underlying144
theorem aYa:Tryz.prog.underlying 146=some (.slice 181):=Tryz.underlying146
theorem aDt:Tryz.prog.underlying 147=some (.slice 178):=Tryz.underlying147
theorem aYm:Tryz.prog.underlying 173=some (.map 9 3):=Tryz.underlying173
theorem aUp:Tryz.prog.underlying 216=some (.array 3 3):=Tryz.underlying216
theorem u233:Tryz.prog.underlying 233=some (.int .i8):=Tryz.underlying233
abbrev szZ (a b:Nat):Prop:=Sz Tryz.prog a b
theorem szO {a b:Nat}(h:Sz Tryz.prog a b:=by unfold Sz;kernel_rfl):szZ a b:=h
theorem sz3:szZ 3 1:=szO
theorem sz4:szZ 4 1:=szO
theorem sz9:szZ 9 1:=szO
theorem sz23:szZ 23 1:=szO
theorem qW:szZ 27 3:=szO
theorem aUr:szZ 30 5:=szO
theorem kW:szZ 32 2:=szO
theorem sz36:szZ 36 1:=szO
theorem qK:szZ 38 6:=szO
theorem dL:szZ 47 7:=szO
theorem wV:szZ 49 8:=szO
theorem aBc:szZ 52 1:=szO
theorem sz60:szZ 60 3:=szO
theorem aDq:szZ 63 4:=szO
theorem sz68:szZ 68 1:=szO
theorem aBj:szZ 71 9:=szO
theorem aGt:szZ 77 2:=szO
theorem sz80:szZ 80 1:=szO
theorem aLq:szZ 82 2:=szO
theorem nS:szZ 84 4:=szO
theorem kK:szZ 87 3:=szO
theorem sz88:szZ 88 1:=szO
theorem sz97:szZ 97 5:=szO
theorem sz113:szZ 113 1:=szO
theorem sz122:szZ 122 1:=szO
theorem aPr:szZ 123 1:=szO
theorem aFo:szZ 125 18:=szO
theorem sz126:szZ 126 1:=szO
theorem sz146:szZ 146 1:=szO
theorem sz147:szZ 147 1:=szO
theorem mV:szZ 159 2:=szO
theorem mY:szZ 169 7:=szO
theorem aFt:szZ 178 1:=szO
theorem aQg:szZ 181 3:=szO
theorem sz216:szZ 216 3:=szO
theorem aIi:szZ 233 1:=szO
theorem aIc:szZ 240 2:=szO
abbrev uK (a:Nat):Prop:=aDp Tryz.prog a
theorem vK {a:Nat}(h:aDp Tryz.prog a:=by unfold aDp;kernel_rfl):uK a:=h
theorem gX:uK 3:=vK
theorem jY:uK 4:=vK
theorem eH:uK 9:=vK
theorem bF:uK 23:=vK
theorem xW:uK 24:=vK
theorem jW:uK 25:=vK
theorem aCi:uK 28:=vK
theorem vZ:uK 36:=vK
theorem mD:uK 45:=vK
theorem dF:uK 52:=vK
theorem aMw:uK 58:=vK
theorem one68:uK 68:=vK
theorem nV:uK 80:=vK
theorem aBd:uK 88:=vK
theorem aHd:uK 113:=vK
theorem aEi:uK 122:=vK
theorem mG:uK 123:=vK
theorem vN:uK 126:=vK
theorem aZx:uK 146:=vK
theorem aZv:uK 147:=vK
theorem aEn:uK 173:=vK
theorem pV:uK 178:=vK
theorem one233:uK 233:=vK
abbrev aAr (a:Nat):Prop:=Agg Tryz.prog a
theorem aBi {a:Nat}(h:Agg Tryz.prog a:=by unfold Agg;kernel_rfl):aAr a:=h
theorem kH:aAr 27:=aBi
theorem aIk:aAr 30:=aBi
theorem nP:aAr 32:=aBi
theorem rF:aAr 38:=aBi
theorem dD:aAr 47:=aBi
theorem aVe:aAr 49:=aBi
theorem agg60:aAr 60:=aBi
theorem aPp:aAr 63:=aBi
theorem aQl:aAr 71:=aBi
theorem agg77:aAr 77:=aBi
theorem aGo:aAr 82:=aBi
theorem aGi:aAr 84:=aBi
theorem sW:aAr 87:=aBi
theorem agg125:aAr 125:=aBi
theorem aEp:aAr 159:=aBi
theorem vS:aAr 169:=aBi
theorem agg181:aAr 181:=aBi
theorem agg216:aAr 216:=aBi
theorem zero3:Go.OB.Zero Tryz.prog 3 ([i6 0]):=by unfold Go.OB.Zero;kernel_rfl
theorem zero23:Go.OB.Zero Tryz.prog 23 ([.slice none 0 0]):=by unfold Go.OB.Zero;kernel_rfl
theorem aCq:Go.OB.Zero Tryz.prog 32 ([i6 0,i6 0]):=by unfold Go.OB.Zero;kernel_rfl
theorem aEu:Go.OB.Zero Tryz.prog 38 ([.string (bs []),.string (bs []),i6 0,i6 0,i6 0,.slice none 0 0]):=by unfold Go.OB.Zero;kernel_rfl
theorem aEg:Go.OB.Zero Tryz.prog 47 ([i6 0,.string (bs []),.string (bs []),i6 0,i6 0,i6 0,.slice none 0 0]):=by unfold Go.OB.Zero;kernel_rfl
theorem bAm:Go.OB.Zero Tryz.prog 49 ([.string (bs []),i6 0,.string (bs []),.string (bs []),i6 0,i6 0,i6 0,.slice none 0 0]):=by unfold Go.OB.Zero;kernel_rfl
theorem zero52:Go.OB.Zero Tryz.prog 52 ([.slice none 0 0]):=by unfold Go.OB.Zero;kernel_rfl
theorem zero60:Go.OB.Zero Tryz.prog 60 ([vb false,.int .u64 0,.int .u64 0]):=by unfold Go.OB.Zero;kernel_rfl
theorem aLo:Go.OB.Zero Tryz.prog 63 ([.string (bs []),vb false,i6 0,.slice none 0 0]):=by unfold Go.OB.Zero;kernel_rfl
theorem zero68:Go.OB.Zero Tryz.prog 68 ([.nilFunc]):=by unfold Go.OB.Zero;kernel_rfl
theorem aNh:Go.OB.Zero Tryz.prog 71 ([.string (bs []),.string (bs []),i6 0,.string (bs []),.string (bs []),i6 0,i6 0,i6 0,.slice none 0 0]):=by unfold Go.OB.Zero;kernel_rfl
theorem zero77:Go.OB.Zero Tryz.prog 77 ([.string (bs []),i6 0]):=by unfold Go.OB.Zero;kernel_rfl
theorem zero82:Go.OB.Zero Tryz.prog 82 ([i6 0,.slice none 0 0]):=by unfold Go.OB.Zero;kernel_rfl
theorem aNm:Go.OB.Zero Tryz.prog 84 ([.string (bs []),i6 0,.slice none 0 0,i6 0]):=by unfold Go.OB.Zero;kernel_rfl
theorem wU:Go.OB.Zero Tryz.prog 87 ([i6 0,i6 0,i6 0]):=by unfold Go.OB.Zero;kernel_rfl
theorem zero88:Go.OB.Zero Tryz.prog 88 ([.slice none 0 0]):=by unfold Go.OB.Zero;kernel_rfl
theorem zero125:Go.OB.Zero Tryz.prog 125 ([i6 0,.string (bs []),.string (bs []),i6 0,i6 0,i6 0,.slice none 0 0,.slice none 0 0,i6 0,i6 0,i6 0,.slice none 0 0,i6 0,i6 0,i6 0,i6 0,.slice none 0 0,.slice none 0 0]):=by unfold Go.OB.Zero;kernel_rfl
theorem sU:Go.OB.Zero Tryz.prog 159 ([i6 0,vb false]):=by unfold Go.OB.Zero;kernel_rfl
theorem bCh:Go.OB.Zero Tryz.prog 169 ([vb false,vb false,vb false,vb false,vb false,i6 0,i6 0]):=by unfold Go.OB.Zero;kernel_rfl
theorem bCk:Go.OB.Zero Tryz.prog 181 ([i6 0,i6 0,.nilIface]):=by unfold Go.OB.Zero;kernel_rfl
theorem zero216:Go.OB.Zero Tryz.prog 216 ((Fl.arr 3 (Fl.int .i64)).f (Arr.rep 3 0:Arr 3 Int)):=by unfold Go.OB.Zero;kernel_rfl
theorem el3:El Tryz.prog 3 1 8 ([i6 0]):=⟨by kernel_rfl,by kernel_rfl,by kernel_rfl,by decide,by decide⟩
theorem el4:El Tryz.prog 4 1 1 ([vb false]):=⟨by kernel_rfl,by kernel_rfl,by kernel_rfl,by decide,by decide⟩
theorem el9:El Tryz.prog 9 1 16 ([.string (bs [])]):=⟨by kernel_rfl,by kernel_rfl,by kernel_rfl,by decide,by decide⟩
theorem el38:El Tryz.prog 38 6 80 ([.string (bs []),.string (bs []),i6 0,i6 0,i6 0,.slice none 0 0]):=⟨by kernel_rfl,by kernel_rfl,by kernel_rfl,by decide,by decide⟩
theorem el52:El Tryz.prog 52 1 24 ([.slice none 0 0]):=⟨by kernel_rfl,by kernel_rfl,by kernel_rfl,by decide,by decide⟩
theorem el63:El Tryz.prog 63 4 56 ([.string (bs []),vb false,i6 0,.slice none 0 0]):=⟨by kernel_rfl,by kernel_rfl,by kernel_rfl,by decide,by decide⟩
theorem aLj:El Tryz.prog 84 4 56 ([.string (bs []),i6 0,.slice none 0 0,i6 0]):=⟨by kernel_rfl,by kernel_rfl,by kernel_rfl,by decide,by decide⟩
theorem el87:El Tryz.prog 87 3 24 ([i6 0,i6 0,i6 0]):=⟨by kernel_rfl,by kernel_rfl,by kernel_rfl,by decide,by decide⟩
theorem el97:El Tryz.prog 97 5 32 ([i6 0,i6 0,i6 0,vb false,vb false]):=⟨by kernel_rfl,by kernel_rfl,by kernel_rfl,by decide,by decide⟩
theorem el125:El Tryz.prog 125 18 240 ([i6 0,.string (bs []),.string (bs []),i6 0,i6 0,i6 0,.slice none 0 0,.slice none 0 0,i6 0,i6 0,i6 0,.slice none 0 0,i6 0,i6 0,i6 0,i6 0,.slice none 0 0,.slice none 0 0]):=⟨by kernel_rfl,by kernel_rfl,by kernel_rfl,by decide,by decide⟩
theorem aKy:El Tryz.prog 159 2 16 ([i6 0,vb false]):=⟨by kernel_rfl,by kernel_rfl,by kernel_rfl,by decide,by decide⟩
theorem aVy:El Tryz.prog 178 1 16 ([.nilIface]):=⟨by kernel_rfl,by kernel_rfl,by kernel_rfl,by decide,by decide⟩
theorem el181:El Tryz.prog 181 3 32 ([i6 0,i6 0,.nilIface]):=⟨by kernel_rfl,by kernel_rfl,by kernel_rfl,by decide,by decide⟩
theorem el233:El Tryz.prog 233 1 1 ([.int .i8 0]):=⟨by kernel_rfl,by kernel_rfl,by kernel_rfl,by decide,by decide⟩
theorem aPq:El Tryz.prog 240 2 16 ([i6 0,i6 0]):=⟨by kernel_rfl,by kernel_rfl,by kernel_rfl,by decide,by decide⟩
theorem aNz:Tryz.prog.built 32 []=some ([i6 0,i6 0]).toArray:=by kernel_rfl
theorem bz87:Tryz.prog.built 87 []=some ([i6 0,i6 0,i6 0]).toArray:=by kernel_rfl
theorem bz169:Tryz.prog.built 169 []=some ([vb false,vb false,vb false,vb false,vb false,i6 0,i6 0]).toArray:=by kernel_rfl
theorem aWq (a b:Int):Tryz.prog.built 32 [(0,i6 a),(1,i6 b)]=some [i6 a,i6 b].toArray:=by kernel_rfl
theorem bt32_1 (a:Int):Tryz.prog.built 32 [(1,i6 a)]=some [i6 0,i6 a].toArray:=by kernel_rfl
theorem aZc (a:Bool)(b c:Int):Tryz.prog.built 60 [(0,vb a),(1,.int .u64 b),(2,.int .u64 c)]=some [vb a,.int .u64 b,.int .u64 c].toArray:=by kernel_rfl
theorem aLe (a:Str)(b:Int)(c:Option Addr)(d e:Nat):Tryz.prog.built 63 [(0,sb a),(2,i6 b),(3,.slice c d e)]=some [sb a,vb false,i6 b,.slice c d e].toArray:=by kernel_rfl
theorem aYh (a:Int):Tryz.prog.built 82 [(0,i6 a)]=some [i6 a,.slice none 0 0].toArray:=by kernel_rfl
theorem aXs (a:Str)(b:Int)(c:Option Addr)(d e:Nat):Tryz.prog.built 84 [(0,sb a),(1,.agg [i6 b,.slice c d e].toArray)]=some [sb a,i6 b,.slice c d e,i6 0].toArray:=by kernel_rfl
theorem aKb (a b:Int)(c:Bool):Tryz.prog.built 97 [(0,i6 a),(1,i6 b),(3,vb c)]=some [i6 a,i6 b,i6 0,vb c,vb false].toArray:=by kernel_rfl
theorem bt125_0 (a:Int)(b c:Str)(d e f:Int)(h:Option Addr)(i j:Nat):Tryz.prog.built 125 [(0,.agg [i6 a,sb b,sb c,i6 d,i6 e,i6 f,.slice h i j].toArray)]=some [i6 a,sb b,sb c,i6 d,i6 e,i6 f,.slice h i j,.slice none 0 0,i6 0,i6 0,i6 0,.slice none 0 0,i6 0,i6 0,i6 0,i6 0,.slice none 0 0,.slice none 0 0].toArray:=by kernel_rfl
theorem bt128_0_5 (a:Option Addr)(b c:Nat)(d:Option Addr)(e f:Nat)(h:Option Addr)(i j:Nat)(k:Option Addr)(l n:Nat):Tryz.prog.built 128 [(0,.agg [.slice a b c,.slice d e f,.slice h i j].toArray),(5,.slice k l n)]=some [.slice a b c,.slice d e f,.slice h i j,.slice none 0 0,.slice none 0 0,.slice none 0 0,i6 0,.slice k l n,.slice none 0 0,i6 0,.slice none 0 0,.slice none 0 0].toArray:=by kernel_rfl
theorem aXk (a:Option Addr)(b c:Nat)(d:Int)(e:Option Addr)(f h:Nat):Tryz.prog.built 149 [(0,.slice a b c),(1,i6 d),(4,.slice e f h)]=some [.slice a b c,i6 d,.slice none 0 0,.slice none 0 0,.slice e f h].toArray:=by kernel_rfl
theorem aPe (a:Int)(b:Bool):Tryz.prog.built 159 [(0,i6 a),(1,vb b)]=some [i6 a,vb b].toArray:=by kernel_rfl
theorem bt169_0 (a:Bool):Tryz.prog.built 169 [(0,vb a)]=some [vb a,vb false,vb false,vb false,vb false,i6 0,i6 0].toArray:=by kernel_rfl
theorem aWr (a b c:Bool):Tryz.prog.built 169 [(0,vb a),(1,vb b),(2,vb c)]=some [vb a,vb b,vb c,vb false,vb false,i6 0,i6 0].toArray:=by kernel_rfl
theorem aVa (a b c:Bool):Tryz.prog.built 169 [(0,vb a),(2,vb b),(3,vb c)]=some [vb a,vb false,vb b,vb c,vb false,i6 0,i6 0].toArray:=by kernel_rfl
theorem aVk (a b c:Bool):Tryz.prog.built 169 [(0,vb a),(3,vb b),(4,vb c)]=some [vb a,vb false,vb false,vb b,vb c,i6 0,i6 0].toArray:=by kernel_rfl
theorem aOm (a b:Bool)(c d:Int):Tryz.prog.built 169 [(3,vb a),(4,vb b),(5,i6 c),(6,i6 d)]=some [vb false,vb false,vb false,vb a,vb b,i6 c,i6 d].toArray:=by kernel_rfl
theorem aUd (a:Bool)(b c:Int):Tryz.prog.built 169 [(4,vb a),(5,i6 b),(6,i6 c)]=some [vb false,vb false,vb false,vb false,vb a,i6 b,i6 c].toArray:=by kernel_rfl
theorem aHg (a b:Int):Tryz.prog.built 169 [(5,i6 a),(6,i6 b)]=some [vb false,vb false,vb false,vb false,vb false,i6 a,i6 b].toArray:=by kernel_rfl
theorem aWg (a:Option Nat)(b:Option Addr)(c d:Nat)(e:Option Nat):Tryz.prog.built 175 [(0,.map a),(2,.slice b c d),(3,.map e)]=some [.map a,.slice none 0 0,.slice b c d,.map e].toArray:=by kernel_rfl
theorem aUl (a b:Int)(a2T:TypeId)(c:Value):Tryz.prog.built 181 [(0,i6 a),(1,i6 b),(2,.iface a2T c)]=some [i6 a,i6 b,.iface a2T c].toArray:=by kernel_rfl
theorem bt184_0 (a:Option Addr)(b c:Nat):Tryz.prog.built 184 [(0,.slice a b c)]=some [.slice a b c,.slice none 0 0,.slice none 0 0].toArray:=by kernel_rfl
theorem bCu (a:Int):Tryz.prog.built 197 [(0,i6 a)]=some [i6 a].toArray:=by kernel_rfl
theorem aVs (a b c:Int):Tryz.prog.built 199 [(0,i6 a),(1,i6 b),(2,i6 c)]=some [i6 a,i6 b,i6 c].toArray:=by kernel_rfl
theorem aIt (a b c d e:Int):Tryz.prog.built 201 [(0,i6 a),(1,i6 b),(2,i6 c),(3,i6 d),(4,i6 e)]=some [i6 a,i6 b,i6 c,i6 d,i6 e].toArray:=by kernel_rfl
theorem aXr (a b c:Int):Tryz.prog.built 204 [(0,i6 a),(1,i6 b),(2,i6 c)]=some [i6 a,i6 b,i6 c,.slice none 0 0].toArray:=by kernel_rfl
theorem bt206_0 (a:Int):Tryz.prog.built 206 [(0,i6 a)]=some [i6 a].toArray:=by kernel_rfl
theorem bt208_0 (a:Int):Tryz.prog.built 208 [(0,i6 a)]=some [i6 a].toArray:=by kernel_rfl
theorem bt211_0 (a0T:TypeId)(a:Value):Tryz.prog.built 211 [(0,.iface a0T a)]=some [.iface a0T a].toArray:=by kernel_rfl
theorem bt214_0_1 (a:Option Addr)(b c:Nat)(d:Bool):Tryz.prog.built 214 [(0,.slice a b c),(1,vb d)]=some [.slice a b c,vb d].toArray:=by kernel_rfl
theorem aCe (a0T:TypeId)(a:Value)(b c:Int):Tryz.prog.built 218 [(0,.iface a0T a),(1,i6 b),(2,i6 c)]=some [.iface a0T a,i6 b,i6 c,.slice none 0 0,i6 0,i6 0,i6 0].toArray:=by kernel_rfl
theorem bt221_0_1 (a0T:TypeId)(a:Value)(a1T:TypeId)(b:Value):Tryz.prog.built 221 [(0,.iface a0T a),(1,.iface a1T b)]=some [.iface a0T a,.iface a1T b,i6 0,vb false].toArray:=by kernel_rfl
theorem bt224_0 (a0T:TypeId)(a:Value):Tryz.prog.built 224 [(0,.iface a0T a)]=some [.iface a0T a,i6 0,vb false].toArray:=by kernel_rfl
theorem aOy (a b:Int):Tryz.prog.built 240 [(0,i6 a),(1,i6 b)]=some [i6 a,i6 b].toArray:=by kernel_rfl
abbrev gW (b:Nat):Value:= .pointer (some ⟨b,0,none⟩)
def FAt (t i m:Nat):Prop:= ∀{ρ:Env}{w:World}{d:Option Tmp}{x:Operand}{ty:TypeId}{pos:String}{af:Array Edge}{g:Option (Nat×Bool)}{b o:Nat} (_:ev ρ x= .pointer (some ⟨b,o,none⟩)),Do Tryz.prog ⟨d,.fieldAddr t x i,ty,pos,af,g⟩ ρ w (.pointer (some ⟨b,o+m,none⟩)) w
theorem faO {t i m:Nat}(n:Nat)(h:aKf Tryz.prog t i=some (m,some n):=by kernel_rfl)(hn:n≠0:=by decide):FAt t i m:=λhx=>aOe h hn hx
theorem aZ:FAt 27 0 0:=faO 1
theorem rX:FAt 27 1 1:=faO 1
theorem aQ:FAt 27 2 2:=faO 1
theorem fa30_0:FAt 30 0 0:=faO 1
theorem aNl:FAt 30 1 1:=faO 1
theorem aBn:FAt 30 2 2:=faO 1
theorem vG:FAt 30 3 3:=faO 1
theorem aSx:FAt 30 4 4:=faO 1
theorem aHb:FAt 38 0 0:=faO 1
theorem fa38_1:FAt 38 1 1:=faO 1
theorem qF:FAt 38 2 2:=faO 1
theorem aAz:FAt 38 3 3:=faO 1
theorem aCg:FAt 38 4 4:=faO 1
theorem mW:FAt 38 5 5:=faO 1
theorem aA:FAt 47 0 0:=faO 1
theorem kR:FAt 47 1 1:=faO 1
theorem aBt:FAt 47 2 2:=faO 1
theorem aBw:FAt 47 3 3:=faO 1
theorem pY:FAt 47 4 4:=faO 1
theorem jR:FAt 47 5 5:=faO 1
theorem aX:FAt 47 6 6:=faO 1
theorem aCh:FAt 49 0 0:=faO 1
theorem aBv:FAt 49 1 1:=faO 7
theorem fa60_0:FAt 60 0 0:=faO 1
theorem aSr:FAt 60 1 1:=faO 1
theorem aZz:FAt 60 2 2:=faO 1
theorem fa63_0:FAt 63 0 0:=faO 1
theorem aRw:FAt 63 1 1:=faO 1
theorem aNq:FAt 63 2 2:=faO 1
theorem wS:FAt 63 3 3:=faO 1
theorem aRv:FAt 71 0 0:=faO 1
theorem aSa:FAt 71 1 1:=faO 1
theorem aBo:FAt 71 2 2:=faO 7
theorem aHq:FAt 77 0 0:=faO 1
theorem aSz:FAt 77 1 1:=faO 1
theorem aKg:FAt 82 0 0:=faO 1
theorem aY:FAt 82 1 1:=faO 1
theorem qV:FAt 84 0 0:=faO 1
theorem qP:FAt 84 1 1:=faO 2
theorem aRe:FAt 84 2 3:=faO 1
theorem wO:FAt 87 0 0:=faO 1
theorem wJ:FAt 87 1 1:=faO 1
theorem aCf:FAt 87 2 2:=faO 1
theorem fa97_0:FAt 97 0 0:=faO 1
theorem fa97_2:FAt 97 2 2:=faO 1
theorem fa97_4:FAt 97 4 4:=faO 1
theorem nI:FAt 125 0 0:=faO 7
theorem uG:FAt 125 1 7:=faO 1
theorem bCw:FAt 125 2 8:=faO 1
theorem kC:FAt 125 3 9:=faO 1
theorem bBi:FAt 125 4 10:=faO 1
theorem wE:FAt 125 5 11:=faO 1
theorem uN:FAt 125 6 12:=faO 1
theorem aAi:FAt 125 7 13:=faO 1
theorem aAs:FAt 125 8 14:=faO 1
theorem aFe:FAt 125 9 15:=faO 1
theorem jM:FAt 125 10 16:=faO 1
theorem mO:FAt 125 11 17:=faO 1
theorem aCz:FAt 128 0 0:=faO 3
theorem aRd:FAt 128 1 3:=faO 1
theorem aRj:FAt 128 2 4:=faO 1
theorem bDi:FAt 128 3 5:=faO 1
theorem aDm:FAt 128 4 6:=faO 1
theorem aGk:FAt 128 5 7:=faO 1
theorem pJ:FAt 128 6 8:=faO 1
theorem aSo:FAt 128 7 9:=faO 1
theorem aRo:FAt 128 8 10:=faO 1
theorem aIy:FAt 128 9 11:=faO 1
theorem bBr:FAt 149 0 0:=faO 1
theorem aJb:FAt 149 2 2:=faO 1
theorem aSn:FAt 149 3 3:=faO 1
theorem aFz:FAt 149 4 4:=faO 1
theorem jX:FAt 159 0 0:=faO 1
theorem wF:FAt 159 1 1:=faO 1
theorem bBm:FAt 169 0 0:=faO 1
theorem bCt:FAt 169 1 1:=faO 1
theorem bDo:FAt 169 2 2:=faO 1
theorem bBo:FAt 169 3 3:=faO 1
theorem bBy:FAt 169 4 4:=faO 1
theorem fa169_5:FAt 169 5 5:=faO 1
theorem fa169_6:FAt 169 6 6:=faO 1
theorem aFr:FAt 175 0 0:=faO 1
theorem aJo:FAt 175 1 1:=faO 1
theorem fa175_2:FAt 175 2 2:=faO 1
theorem bCc:FAt 175 3 3:=faO 1
theorem fa181_0:FAt 181 0 0:=faO 1
theorem fa181_1:FAt 181 1 1:=faO 1
theorem fa181_2:FAt 181 2 2:=faO 1
theorem aJx:FAt 184 0 0:=faO 1
theorem aRt:FAt 184 1 1:=faO 1
theorem aJc:FAt 184 2 2:=faO 1
theorem fa197_0:FAt 197 0 0:=faO 1
theorem fa199_0:FAt 199 0 0:=faO 1
theorem fa199_1:FAt 199 1 1:=faO 1
theorem fa199_2:FAt 199 2 2:=faO 1
theorem fa201_0:FAt 201 0 0:=faO 1
theorem fa201_1:FAt 201 1 1:=faO 1
theorem fa201_2:FAt 201 2 2:=faO 1
theorem fa201_3:FAt 201 3 3:=faO 1
theorem fa201_4:FAt 201 4 4:=faO 1
theorem fa204_0:FAt 204 0 0:=faO 1
theorem fa204_1:FAt 204 1 1:=faO 1
theorem bBl:FAt 204 2 2:=faO 1
theorem bDp:FAt 204 3 3:=faO 1
theorem fa206_0:FAt 206 0 0:=faO 1
theorem fa208_0:FAt 208 0 0:=faO 1
theorem fa211_0:FAt 211 0 0:=faO 1
theorem fa214_0:FAt 214 0 0:=faO 1
theorem fa214_1:FAt 214 1 1:=faO 1
theorem fa218_0:FAt 218 0 0:=faO 1
theorem bCm:FAt 218 1 1:=faO 1
theorem bDj:FAt 218 2 2:=faO 1
theorem aDf:FAt 218 3 3:=faO 1
theorem aFn:FAt 218 4 4:=faO 3
theorem fa221_0:FAt 221 0 0:=faO 1
theorem fa221_1:FAt 221 1 1:=faO 1
theorem aSb:FAt 221 2 2:=faO 1
theorem fa221_3:FAt 221 3 3:=faO 1
theorem fa224_0:FAt 224 0 0:=faO 1
theorem aSh:FAt 224 1 1:=faO 1
theorem fa224_2:FAt 224 2 2:=faO 1
theorem fa240_0:FAt 240 0 0:=faO 1
theorem aIw:FAt 240 1 1:=faO 1
theorem eqf3:EqF Tryz.prog 3 (Fl.int .i64) 1:=EqF.int Tryz.underlying3
theorem eqf32:EqF Tryz.prog 32 aRs 2:=EqF.struct (k:=1) (λx y h=>by cases x;cases y;simp_all) Tryz.underlying32 (by kernel_rfl) (by unfold Sz;kernel_rfl) ((aTs.cons rfl (by decide) (eqf3.up (by decide)) (aTs.one rfl (by decide) (eqf3.up (by decide)))))
abbrev fU:=f1 Rp.str
abbrev dI:=f1 dK
abbrev cO:=f1 aId
abbrev bK:=f1 aEo
abbrev aG:=f1 Rp.bool
abbrev jJ:=f1 aJ
abbrev jH:=f1 (Rp.int .i64)
abbrev nR:=f1 eX
abbrev aBb:=f1 eG
abbrev eF:=Rt.row (Rt.of (Rp.int .i64)) 3 []
abbrev bC:=Rt.row dM 125 []
abbrev tZ:=Rt.row vY 181 []
abbrev aEr:=Rt.row (Rt.of fJ) 240 []
abbrev uJ:=Rt.row bD 178 []
abbrev rw_6:=Rt.row (Rt.of aJ) 159 []
abbrev rw_7:=Rt.row (Rt.of (Rp.int .i8)) 233 []
section
variable {O S:List Nat}{v w:World}{a b c d e f g i j k l m n o p q r s t u x y z A B C D E F G H I J K L M:Th}
abbrev hh (p:Prop):Prop:=p->p
theorem un1:hh (Hd O v w S [a]):=id
theorem un2:hh (Hd O v w S [a,b]):=id
theorem un3:hh (Hd O v w S [a,b,c]):=id
theorem un4:hh (Hd O v w S [a,b,c,d]):=id
theorem un5:hh (Hd O v w S [a,b,c,d,e]):=id
theorem un6:hh (Hd O v w S [a,b,c,d,e,f]):=id
theorem un7:hh (Hd O v w S [a,b,c,d,e,f,g]):=id
theorem un8:hh (Hd O v w S [a,b,c,d,e,f,g,i]):=id
theorem un9:hh (Hd O v w S [a,b,c,d,e,f,g,i,j]):=id
theorem wZ:hh (Hd O v w S [a,b,c,d,e,f,g,i,j,k]):=id
theorem jZ:hh (Hd O v w S [a,b,c,d,e,f,g,i,j,k,l]):=id
theorem bT:hh (Hd O v w S [a,b,c,d,e,f,g,i,j,k,l,m]):=id
theorem dZ:hh (Hd O v w S [a,b,c,d,e,f,g,i,j,k,l,m,n]):=id
theorem kE:hh (Hd O v w S [a,b,c,d,e,f,g,i,j,k,l,m,n,o]):=id
theorem uZ:hh (Hd O v w S [a,b,c,d,e,f,g,i,j,k,l,m,n,o,p]):=id
theorem qL:hh (Hd O v w S [a,b,c,d,e,f,g,i,j,k,l,m,n,o,p,q]):=id
theorem bM:hh (Hd O v w S [a,b,c,d,e,f,g,i,j,k,l,m,n,o,p,q,r]):=id
theorem rJ:hh (Hd O v w S [a,b,c,d,e,f,g,i,j,k,l,m,n,o,p,q,r,s]):=id
theorem aTf:hh (Hd O v w S [a,b,c,d,e,f,g,i,j,k,l,m,n,o,p,q,r,s,t]):=id
theorem un20:hh (Hd O v w S [a,b,c,d,e,f,g,i,j,k,l,m,n,o,p,q,r,s,t,u]):=id
theorem un21:hh (Hd O v w S [a,b,c,d,e,f,g,i,j,k,l,m,n,o,p,q,r,s,t,u,x]):=id
theorem un22:hh (Hd O v w S [a,b,c,d,e,f,g,i,j,k,l,m,n,o,p,q,r,s,t,u,x,y]):=id
theorem un23:hh (Hd O v w S [a,b,c,d,e,f,g,i,j,k,l,m,n,o,p,q,r,s,t,u,x,y,z]):=id
theorem un24:hh (Hd O v w S [a,b,c,d,e,f,g,i,j,k,l,m,n,o,p,q,r,s,t,u,x,y,z,A]):=id
theorem un25:hh (Hd O v w S [a,b,c,d,e,f,g,i,j,k,l,m,n,o,p,q,r,s,t,u,x,y,z,A,B]):=id
theorem un26:hh (Hd O v w S [a,b,c,d,e,f,g,i,j,k,l,m,n,o,p,q,r,s,t,u,x,y,z,A,B,C]):=id
theorem un27:hh (Hd O v w S [a,b,c,d,e,f,g,i,j,k,l,m,n,o,p,q,r,s,t,u,x,y,z,A,B,C,D]):=id
theorem un36:hh (Hd O v w S [a,b,c,d,e,f,g,i,j,k,l,m,n,o,p,q,r,s,t,u,x,y,z,A,B,C,D,E,F,G,H,I,J,K,L,M]):=id
end
section
variable {P:Program}{N:Nat}{ops:Array Oper}{Q:Exit->Env->World->Prop}{rest:List Oper}{ρ:Env}{w:World}{d f:Nat}{t u ty tz:TypeId}{x y:Operand}{pos qos:String}{af bf:Array Edge}{g h:Option (Nat×Bool)}{b o m i:Nat}
theorem nf (hx:ev ρ x= .pointer (some ⟨b,o,none⟩))(fa:FAt t i m)(n:RL Tryz.prog N ops Q rest (upd (upd ρ d (.pointer (some ⟨b,o,none⟩))) f (.pointer (some ⟨b,o+m,none⟩))) w)(hy:ev (upd ρ d (.pointer (some ⟨b,o,none⟩))) y= .pointer (some ⟨b,o,none⟩):=by exact rfl)(hw:fV N ops ρ ⟨some d,.nilCheck x,ty,pos,af,g⟩=true:=by exact rfl)(hd:Nat.blt d N=true:=by exact rfl)(hv:fV N ops (upd ρ d (.pointer (some ⟨b,o,none⟩))) ⟨some f,.fieldAddr t y i,tz,qos,bf,h⟩=true:=by exact rfl)(hf:Nat.blt f N=true:=by exact rfl):RL Tryz.prog N ops Q (⟨some d,.nilCheck x,ty,pos,af,g⟩::⟨some f,.fieldAddr t y i,tz,qos,bf,h⟩::rest) ρ w:=zM (kM hx) (zM (fa hy) n hv hf) hw hd
theorem Xn {I:World->Prop}{κ:List MxM.Kd}{K:MxM.Mm->Env->World->Prop}{k q:Nat}{M:MxM.Mm}{σ:List Nat}(hx:ev ρ x= .pointer (some ⟨b,o,none⟩))(fa:FAt t i m)(n:MxM.XL Tryz.prog I N ops κ K M σ rest (upd (upd ρ d (.pointer (some ⟨b,o,none⟩))) f (.pointer (some ⟨b,o+m,none⟩))) w)(hy:ev (upd ρ d (.pointer (some ⟨b,o,none⟩))) y= .pointer (some ⟨b,o,none⟩):=by exact rfl)(hk:MxM.kdOf κ k= .pure:=by exact rfl)(hq:MxM.kdOf κ q= .pure:=by exact rfl)(hw:fV N ops ρ ⟨some d,.nilCheck x,ty,pos,af,g⟩=true:=by exact rfl)(hd:Nat.blt d N=true:=by exact rfl)(hv:fV N ops (upd ρ d (.pointer (some ⟨b,o,none⟩))) ⟨some f,.fieldAddr t y i,tz,qos,bf,h⟩=true:=by exact rfl)(hf:Nat.blt f N=true:=by exact rfl):MxM.XL Tryz.prog I N ops κ K M (k::q::σ) (⟨some d,.nilCheck x,ty,pos,af,g⟩::⟨some f,.fieldAddr t y i,tz,qos,bf,h⟩::rest) ρ w:=XQ (kM hx) (XQ (fa hy) n hq hv hf) hk hw hd
theorem nJ {I:World->Prop}{κ:List MxM.Kd}{K:MxM.Mm->Env->World->Prop}{M:MxM.Mm}{σ O S:List Nat}{v u:World}{l r:List Th}(G:Hd O v u S r)(H:Hd O u w (bks r) l)(n: ∀a,Hd O v a S l->K M ρ a):MxM.XL P I N ops κ K M σ [] ρ w:=MxM.xE λa s=>n a (G.rj (H.Z s))
theorem RH {O S bs:List Nat}{v:World}{l:List Th}{α:Type}{R:Go.Lf.Rt α}{e:TypeId}{D:Hol}{c:List Value}{xl:List α}{j:Int}{a:α}{z y:Value}{n p:Nat}(f:aDp P t)(H:Hd O v w S l)(i q:Nat)(hi:l[i]? =some (.tr (Rt.row R e ((j.toNat,c)::D)) [z] bs xl))(hv:z= .slice (some ⟨b,o,none⟩) n p)(hx:at' xl j=some a)(hq:c[q]? =some y)(k:RL P N ops Q rest (upd ρ d y) w)(he:ev ρ x= .pointer (some ⟨b,o+j.toNat*R.sz+q,none⟩):=by exact rfl)(hw:fV N ops ρ ⟨some d,.load t x,ty,pos,af,g⟩=true:=by exact rfl)(hd:Nat.blt d N=true:=by exact rfl):RL P N ops Q (⟨some d,.load t x,ty,pos,af,g⟩::rest) ρ w:=zM (yD f he (Cells.get (H.holeW i hi hv hx Z aT) hq)) k hw hd
theorem XH {h:World}{r:List Nat}{κ:List MxM.Kd}{K:MxM.Mm->Env->World->Prop}{k:Nat}{M:MxM.Mm}{σ O S bs:List Nat}{v:World}{l:List Th}{α:Type}{R:Go.Lf.Rt α}{e:TypeId}{D:Hol}{c:List Value}{xl:List α}{j:Int}{a:α}{z y:Value}{n p:Nat}(u:aDp P t)(H:Hd O v w S l)(i q:Nat)(hi:l[i]? =some (.tr (Rt.row R e ((j.toNat,c)::D)) [z] bs xl))(hv:z= .slice (some ⟨b,o,none⟩) n p)(hx:at' xl j=some a)(hq:c[q]? =some y)(m:MxM.XL P (λf=>Only r h f) N ops κ K M σ rest (upd ρ d y) w)(he:ev ρ x= .pointer (some ⟨b,o+j.toNat*R.sz+q,none⟩):=by exact rfl)(hk:MxM.kdOf κ k= .read:=by exact rfl)(hw:fV N ops ρ ⟨some d,.load t x,ty,pos,af,g⟩=true:=by exact rfl)(hd:Nat.blt d N=true:=by exact rfl):MxM.XL P (λf=>Only r h f) N ops κ K M (k::σ) (⟨some d,.load t x,ty,pos,af,g⟩::rest) ρ w:=MxM.yX oS hk hw hd (λ_ s=>yD u he (Cells.get ((H.Z s).holeW i hi hv hx rfl aT) hq)) m
end
theorem _root_.Go.Lf.Hd.im {O S:List Nat}{v w:World}{l:List Th}(H:Hd O v w S l)(i:Nat){it:Th}(h:l[i]? =some it):it.holds (frees O l) w:=H.V h
theorem _root_.Go.Lf.Hm.im {n:Nat}{A:Nat->Prop}{O S:List Nat}{v w:World}{l:List Th}(H:Hm n A O v w S l)(i:Nat){it:Th}(h:l[i]? =some it):it.holds (frm O l v) w:=H.V h
theorem p1z {P:Program}{R:Ending->World->Prop}{ρ:Env}{w:World}{rs:Array ResultVar}{t:Tmp}{v:Value}(h:R (.returned v) w)(hr:rs= #[.tmp t]:=by exact rfl)(a:ρ t=v:=by exact rfl):aCk P rs R .ret ρ w:=post1 hr a h
theorem en4:En 4:=fF Tryz.func4
theorem en8:En 8:=fF Tryz.func8
theorem en10:En 10:=fF Tryz.func10
theorem en16:En 16:=fF Tryz.func16
theorem en17:En 17:=fF Tryz.func17
theorem en23:En 23:=fF Tryz.func23
theorem en24:En 24:=fF Tryz.func24
theorem en27:En 27:=fF Tryz.func27
theorem en29:En 29:=fF Tryz.func29
theorem en44:En 44:=fF Tryz.func44
theorem bAf:En 47:=fF Tryz.func47
theorem en50:En 50:=fF Tryz.func50
theorem en51:En 51:=fF Tryz.func51
theorem aVd:En 52:=fF Tryz.func52
theorem en54:En 54:=fF Tryz.func54
theorem aRy:En 65:=fF Tryz.func65
theorem bAh:En 66:=fF Tryz.func66
theorem en67:En 67:=fF Tryz.func67
theorem en68:En 68:=fF Tryz.func68
theorem en69:En 69:=fF Tryz.func69
theorem en70:En 70:=fF Tryz.func70
theorem en71:En 71:=fF Tryz.func71
theorem en76:En 76:=fF Tryz.func76
theorem en77:En 77:=fF Tryz.func77
theorem en79:En 79:=fF Tryz.func79
theorem en86:En 86:=fF Tryz.func86
theorem en95:En 95:=fF Tryz.func95
theorem en96:En 96:=fF Tryz.func96
theorem en97:En 97:=fF Tryz.func97
theorem en99:En 99:=fF Tryz.func99
theorem en100:En 100:=fF Tryz.func100
theorem en103:En 103:=fF Tryz.func103
theorem en110:En 110:=fF Tryz.func110
theorem en111:En 111:=fF Tryz.func111
theorem aOs:En 115:=fF Tryz.func115
theorem en121:En 121:=fF Tryz.func121
theorem aBl:En 122:=fF Tryz.func122
theorem en124:En 124:=fF Tryz.func124
theorem bCg:En 126:=fF Tryz.func126
theorem en127:En 127:=fF Tryz.func127
theorem bBf:En 135:=fF Tryz.func135
theorem en136:En 136:=fF Tryz.func136
theorem en137:En 137:=fF Tryz.func137
theorem aLm:En 138:=fF Tryz.func138
theorem bCa:En 148:=fF Tryz.func148
theorem en150:En 150:=fF Tryz.func150
theorem en162:En 162:=fF Tryz.func162
theorem en187:En 187:=fF Tryz.func187
theorem en189:En 189:=fF Tryz.func189
theorem en190:En 190:=fF Tryz.func190
theorem en191:En 191:=fF Tryz.func191
theorem aUi:En 192:=fF Tryz.func192
theorem en194:En 194:=fF Tryz.func194
theorem en197:En 197:=fF Tryz.func197
theorem en199:En 199:=fF Tryz.func199
theorem en201:En 201:=fF Tryz.func201
theorem en203:En 203:=fF Tryz.func203
theorem en206:En 206:=fF Tryz.func206
theorem en208:En 208:=fF Tryz.func208
theorem en210:En 210:=fF Tryz.func210
theorem en212:En 212:=fF Tryz.func212
theorem mixed:Tryz.prog.follows .mixedOrders=true:=by kernel_rfl
theorem bAs {b c d:Int}{r:Bool}(a:Fap b c d=some r)(H:Hd O w w S []):
  Rt 47 [i6 b,i6 c,i6 d] (vb r) w O S []:=by
 refine CW 15 Tryz.func47 ?_;refine SR<|zA (vb false)<|RM<|bE a λf a h=>sJ H (rg [6,9]) [(6,vb f)] ?_ ?_;refine zG<|zC (i6 b)<|zC (i6 c)<|uI a λi a=>RJ a (λa=>?_) (λa=>?_);refine zC (i6 b)<|zC (i6 d)<|aDr a λe a=>pt (vb e)<|zA (vb e) ?_;cases a;exact jn<|mt () (H.U []);refine zL<|zL<|zL<|pf (vb false)<|zA (vb false) ?_;cases a;exact jn<|mt () (H.U []);rintro _ ρ j H;have a:=h;cases a;exact zI<|p1z ⟨rfl,H.U []⟩
theorem Fecw {b:Str}{r:Bool}(a:Fec b=some r)(H:Hd O w w S []):
  Rt 48 [sb b] (vb r) w O S []:=by
 refine CW 21 Tryz.func48 ?_;refine SR<|zA (vb false)<|RM<|SQ<|SR<|zC (sb b)<|RM<|zJ<|bE a λc a d=>sJ H (rg [4,17]) [(4,vb c)] ?_ ?_;refine SR<|RLb a (xR (s1:=b) (s2:=[112,104,97,115,101]) Z Z) λe a=>zA (vb e)<|RM<|WJ a ?_ ?_<;>intro a;cases a;exact js<|mt () (H.U []);refine SR<|RLb a (xR (s1:=b) (s2:=[109,111,118,101]) Z Z) λf a=>zA (vb f)<|RM<|WJ a ?_ ?_<;>intro a;cases a;exact js<|mt () (H.U []);refine SR<|RLb a (xR (s1:=b) (s2:=[114,117,108,101]) Z Z) λh a=>zA (vb h)<|RM<|WJ a ?_ ?_<;>intro a;cases a;exact js<|mt () (H.U []);refine SR<|RLb a (xR (s1:=b) (s2:=[105,102]) Z Z) λi a=>zA (vb i)<|RM<|WJ a ?_ ?_<;>intro a;cases a;exact js<|mt () (H.U []);refine SR<|RLb a (xR (s1:=b) (s2:=[111,114]) Z Z) λj a=>zA (vb j)<|RM<|WJ a ?_ ?_<;>intro a;cases a;exact js<|mt () (H.U []);refine SR<|RLb a (xR (s1:=b) (s2:=[97,110,100]) Z Z) λk a=>zA (vb k)<|RM<|WJ a ?_ ?_<;>intro a;cases a;exact js<|mt () (H.U []);refine SR<|RLb a (xR (s1:=b) (s2:=[116,114,117,101]) Z Z) λl a=>zA (vb l)<|RM<|WJ a ?_ ?_<;>intro a;cases a;exact js<|mt () (H.U []);refine SR<|RLb a (xR (s1:=b) (s2:=[102,97,108,115,101]) Z Z) λn a=>zA (vb n)<|RM<|WJ a ?_ ?_<;>intro a;cases a;exact js<|mt () (H.U []);refine SR<|RLb a (xR (s1:=b) (s2:=[115,116,101,97,100,121]) Z Z) λo a=>zA (vb o)<|RM<|WJ a ?_ ?_<;>intro a;cases a
 exact js<|mt () (H.U []);refine SR<|RLb a (xR (s1:=b) (s2:=[110,111,116]) Z Z) λp a=>zA (vb p)<|RM<|WJ a ?_ ?_<;>intro a;cases a;exact js<|mt () (H.U []);refine SR<|RLb a (xR (s1:=b) (s2:=[102,111,114]) Z Z) λq a=>zA (vb q)<|RM<|WJ a ?_ ?_<;>intro a;cases a;exact js<|mt () (H.U []);refine SR<|RLb a (xR (s1:=b) (s2:=[119,105,116,104,105,110]) Z Z) λs a=>zA (vb s)<|RM<|WJ a ?_ ?_<;>intro a;cases a;exact js<|mt () (H.U []);refine SR<|RLb a (xR (s1:=b) (s2:=[99,111,117,110,116]) Z Z) λt a=>zA (vb t)<|RM<|WJ a ?_ ?_<;>intro a;cases a;exact js<|mt () (H.U []);refine SR<|RLb a (xR (s1:=b) (s2:=[111,102]) Z Z) λu a=>zA (vb u)<|RM<|WJ a ?_ ?_<;>intro a;cases a;exact js<|mt () (H.U []);refine SR<|RLb a (xR (s1:=b) (s2:=[114,105,115,101,115]) Z Z) λv a=>zA (vb v)<|RM<|WJ a ?_ ?_<;>intro a;cases a;exact js<|mt () (H.U []);refine zG<|RLb a (xR (s1:=b) (s2:=[115,105,110,99,101]) Z Z) λx a=>zA (vb x) ?_;cases a;exact jn<|mt () (H.U []);rintro _ ρ y H;have a:=d;refine WJ a (λa=>SR<|zA (vb true)<|RM ?_) λa=>?_;cases a;exact zI<|zK<|zF<|p1z ⟨Z,H.U []⟩;refine yK<|zQ<|zH<|KN<|SR<|zA (vb false)<|RM ?_;cases a;exact zI<|p1z ⟨Z,H.U []⟩
theorem Fd8w {b:Int}{r:Bool}(a:Fd8 b=some r)(H:Hd O w w S []):
  Rt 49 [.int .u8 b] (vb r) w O S []:=by
 refine CW 21 Tryz.func49 ?_;refine SR<|zA (vb false)<|RM<|bE a λe a f=>sJ H (rg [2,19]) [(2,vb e)] ?_ ?_;refine zG<|zC (.int .u8 b)<|uI a λn a=>bE a λh a i=>xH 4 [5,6,7,8] [(8,vb h)] (λwl=>Hd O w wl S []) ?_ ?_;refine RJ a (λa=>zC (.int .u8 b)<|aDr a λj a=>pt (vb j) ?_) λa=>?_;cases a;exact jn<|meet ⟨(yE Z yS),H.U []⟩;refine zL<|zL<|pf (vb false) ?_;cases a;exact jn<|meet ⟨(yE Z yS),H.U []⟩;rintro ρ o H;have a:=i;refine bE a λk a l=>xH 8 [9,10,11,12,13,14,15,16] [(16,vb k)] (λwl=>Hd O w wl S []) ?_ ?_;refine RJ a (λa=>zL<|zL<|zL<|zL<|zL<|zL<|pt (vb true) ?_) λa=>?_;cases a;exact jn<|meet ⟨(yE Z yS),H.U []⟩;refine zC (.int .u8 b)<|uI a λp a=>RJ a (λa=>zC (.int .u8 b)<|aDr a λc a=>pt (vb c)<|pf (vb c) ?_) λa=>?_;cases a;exact jn<|meet ⟨(yE Z yS),H.U []⟩;refine zL<|zL<|pf (vb false)<|pf (vb false) ?_;cases a;exact jn<|meet ⟨(yE Z yS),H.U []⟩;rintro ρ q H;have a:=l;refine RJ a (λa=>zL<|zL<|pt (vb true)<|zA (vb true) ?_) λa=>?_;cases a;exact jn<|mt () (H.U []);refine zC (.int .u8 b)<|fD a λd a=>pf (vb d)<|zA (vb d) ?_;cases a;exact jn<|mt () (H.U []);rintro _ ρ s H;have a:=f;cases a;exact zI<|p1z ⟨Z,H.U []⟩
theorem Faxw {b:Str}{r:Bool}(a:Fax b=some r)(H:Hd O w w S []):
  Rt 23 [sb b] (vb r) w O S []:=by
 refine CW 33 Tryz.func23 ?_;refine SR<|zA (vb false)<|RM<|SQ<|bE a λd a e=>sJ H (rg [4,18]) [(21,vb d)] ?_ ?_;refine zG<|zC (sb b)<|RLi a (aJz (s1:=b) u9 Z) λA a=>bE a λB f a=>RC bAf (bAs f (H.W [] [])) H λC H=>dJ a λD a=>bE a λh a i=>xH 5 [8,9,10,11,12] [(12,vb h)] (λwl=>Hd O w wl S []) ?_ ?_;refine RJ a (λa=>zL<|zL<|zL<|pt (vb true) ?_) λa=>?_;cases a;exact jn<|meet ⟨(yE Z yS),H.U []⟩;refine zC (sb b)<|bE a λE j a=>zM (aIz (s1:=b) (q:=0) u9 Z Z j)<|fP a λk a=>pf (vb k) ?_;cases a;exact jn<|meet ⟨(yE Z yS),H.U []⟩;rintro ρ F H;have a:=i;refine bE a λl a n=>xH 5 [13,14,15,16,17] [(17,vb l)] (λwl=>Hd O w wl S []) ?_ ?_;refine RJ a (λa=>zL<|zL<|zL<|pt (vb true) ?_) λa=>?_;cases a;exact jn<|meet ⟨(yE Z yS),H.U []⟩;refine zC (sb b)<|bE a λG o a=>zM (aIz (s1:=b) (q:=0) u9 Z Z o)<|aW a λp a=>pf (vb p) ?_;cases a;exact jn<|meet ⟨(yE Z yS),H.U []⟩;rintro ρ I H;have a:=n;refine RJ a (λa=>zL<|zL<|pt (vb true) ?_) λa=>?_;cases a;exact jn<|mt () (H.U []);refine zC (sb b)<|bE a λs t a=>RC (fF Tryz.func48) (Fecw t (H.W [] [])) H λJ H=>pf (vb s) ?_;cases a;exact jn<|mt () (H.U []);rintro _ ρ K H;have a:=e;refine WJ a (λa=>SR<|zA (vb false)<|RM ?_) λa=>?_;cases a;exact zI<|zF<|p1z ⟨Z,H.U []⟩;refine WZ<|jk a H (rg [2,2,22,11]) (λx (y:Unit)=>[]) (λx y=>[]) [] (λL a=>?_) ?_;refine SR<|zC (sb b)<|RLi a (aJz (s1:=b) u9 Z) λM a=>zC (i6 0)<|RM<|zJ<|lo a H (rg [2,2,24,9]) (λx (y:Unit)=>[(24,i6 x)]) (λx y=>[]) [] () (H.U []) ?_
 clear H a;rintro N c _ ρ P H a;refine SR<|fP a λQ a=>RM<|SQ<|WJ a (λa=>WZ<|SQ<|zJ<|SR<|zC (i6 c)<|zA (i6 c)<|RM<|SR<|zC (sb b)<|zC (i6 c)<|bE a λ_ u a=>zM (aIz (s1:=b) (q:=c) u9 Z Z u)<|bE a λT v a=>RC (fF Tryz.func49) (Fd8w v (H.W [] [])) H λU H=>dJ a λV a=>RM<|WJ a (λa=>SR<|zA (vb false)<|RM ?_) λa=>?_) λa=>?_;cases a;exact zI<|zK<|zF<|zF<|zK<|zF<|p1z ⟨Z,H.U []⟩;exact yK<|zQ<|zH<|KN<|zG<|fQ a λz a=>zC (i6 z)<|jn<|me a () (H.U []);exact zY<|zS<|zS<|zU<|zH<|me a () (H.U []);rintro _ _ ρ X H a;refine SR<|zA (vb true)<|RM ?_;cases a;exact zI<|p1z ⟨Z,H.U []⟩
theorem Fbhw {a:Str}{r:Bool}(b:Fbh a=some r)(H:Hd O w w S []):
  Rt 29 [sb a] (vb r) w O S []:=by
 refine CW 5 Tryz.func29 ?_;refine SR<|zA (vb false)<|RM<|SR<|zC (sb a)<|bE b λc d b=>RC en23 (Faxw d (H.W [] [])) H λe H=>zA (vb c)<|RM ?_;cases b;exact zI<|p1z ⟨Z,H.U []⟩
theorem Fa7w {b c d:Int}{r:Bool}(a:Fa7 b c d=some r)(H:Hd O w w S []):
  Rt 27 [i6 b,i6 c,i6 d] (vb r) w O S []:=by
 refine CW 15 Tryz.func27 ?_;refine SR<|zA (vb false)<|RM<|bE a λf a h=>sJ H (rg [6,9]) [(6,vb f)] ?_ ?_;refine zG<|zC (i6 b)<|zC (i6 c)<|uI a λi a=>RJ a (λa=>zC (i6 b)<|zC (i6 d)<|aDr a λe a=>pt (vb e)<|zA (vb e) ?_) λa=>?_;cases a;exact jn<|mt () (H.U []);refine zL<|zL<|zL<|pf (vb false)<|zA (vb false) ?_;cases a;exact jn<|mt () (H.U []);rintro _ ρ j H;have a:=h;cases a;exact zI<|p1z ⟨Z,H.U []⟩
theorem Fg9w {a b:Track}{c d:Value}{e:Nat}{r:Bool}(f:Fg9 a b=some r)(H:Hd O w w S [.blk e [sb b.Name,i6 b.Series.Den,d,i6 b.Long] 84,aBb c a.Series.Samples,aBb d b.Series.Samples]):
  Rt 84 [.agg [sb a.Name,i6 a.Series.Den,c,i6 a.Long].toArray,gW e] (vb r) w O S [.blk e [sb b.Name,i6 b.Series.Den,d,i6 b.Long] 84]:=by
 refine CW 9 Tryz.func84 ?_;refine SR<|xb (yL (cs:=[sb a.Name,i6 a.Series.Den,c,i6 a.Long]) Z H) λi j H=>zA (vb false)<|RM<|SR<|zM (qV Z)<|Ld eH H 3 0 Z Z<|zM (qV Z)<|Ld eH H 0 0 Z Z<|RLb f (xR (s1:=a.Name) (s2:=b.Name) Z Z) λh f=>zA (vb h)<|RM ?_;cases f;exact zI<|p1z ⟨Z,H.U [0]⟩
theorem Fdbw {h:List Track}{p1c0:Track}{c f:Value}{d:Nat}{r:Int}(a:Fdb h p1c0=some r)(H:Hd O w w S [.blk d [sb p1c0.Name,i6 p1c0.Series.Den,f,i6 p1c0.Long] 84,nR c h,aBb f p1c0.Series.Samples]):
  Rt 106 [c,.func (.func 84) #[] #[gW d]] (i6 r) w O S [.blk d [sb p1c0.Name,i6 p1c0.Series.Den,f,i6 p1c0.Long] 84]:=by
 refine CW 19 Tryz.func106 ?_;refine SR<|zA (i6 0)<|RM<|jk a H (rg [4,15]) (λx (y:Unit)=>[]) (λx y=>[]) [0,2] (λA a=>?_) ?_;refine SR<|zC c<|ln a (H.im 1 Z) u36 λB a=>zC (i6 0)<|RM<|zJ<|lo a H (rg [4,2,8,11]) (λx (y:Unit)=>[(8,i6 x)]) (λx y=>[]) [0,2,1] () (H.U [0,2,1]) ?_;clear H a;rintro C b _ ρ D H a;have H:=un3 H;refine SR<|fP a λE a=>RM<|SQ<|WJ a (λa=>WZ<|SQ<|zJ<|SR<|zC (i6 b)<|zA (i6 b)<|RM<|SR<|zC (.func (.func 84) #[] #[gW d])<|zC c<|zC (i6 b)<|bE a λe i a=>?_) λa=>?_;obtain⟨k,l,F,G,n,o,p,q,s⟩:=yV (H.im 2 Z) i;obtain⟨j,rfl,t⟩:=xK o;have H:=H.fzs [.at k (l+b.toNat*4) _,.sl eG j e.Series.Samples] ⟨⟨p,q,s⟩,t,T1⟩;refine ix u36 nS n i<|zM (yQ (zZ (cs:=[sb e.Name,i6 e.Series.Den,j,i6 e.Long]) aGi Z nS Z (H.im 3 Z).2.2) Z)<|bE a λI u a=>xM Z Z (kG (fF Tryz.func84) Z Z) (Fg9w u (H.W [0] [4,1])) ?_;rintro _ J ⟨rfl,v⟩;have H:=un5<|H.back [0] [4,1] Z v;refine⟨_,Z,?_⟩;refine RM<|WJ a (λa=>SR<|zC (i6 b)<|zA (i6 b)<|RM ?_) λa=>?_;cases a;exact zI<|zK<|zF<|zF<|zK<|zF<|p1z ⟨Z,H.U [4]⟩;exact yK<|zQ<|zH<|KN<|zG<|fQ a λz a=>zC (i6 z)<|jn<|me a () (H.U [4,0,1]);exact zY<|zS<|zS<|zU<|zH<|me a () (H.U [0,1]);rintro _ _ ρ K H a;have H:=un2 H;refine SR<|zA (i6 (-1))<|RM ?_;cases a;exact zI<|p1z ⟨Z,H.U [0]⟩
theorem Fdnw {e:List Track}{p1c0:Track}{c d:Value}{b:Nat}{r:Bool}(a:Fdn e p1c0=some r)(H:Hd O w w S [.blk b [sb p1c0.Name,i6 p1c0.Series.Den,d,i6 p1c0.Long] 84,nR c e,aBb d p1c0.Series.Samples]):
  Rt 83 [c,.func (.func 84) #[] #[gW b]] (vb r) w O S [.blk b [sb p1c0.Name,i6 p1c0.Series.Den,d,i6 p1c0.Long] 84]:=by
 refine CW 9 Tryz.func83 ?_;refine SR<|zA (vb false)<|RM<|SR<|zC c<|zC (.func (.func 84) #[] #[gW b])<|bE a λj f a=>cAz (fF Tryz.func106) (Fdbw f (H.W [0] [1,2])) λk h=>?_;have H:=un3<|H.back [0] [1,2] Z h;refine uI a λi a=>zA (vb i)<|RM ?_;cases a;exact zI<|p1z ⟨Z,H.U [2]⟩
theorem Fbew {b c d:Int}{r:Bool}(a:Fbe b c d=some r)(H:Hd O w w S []):
  Rt 126 [i6 b,i6 c,i6 d] (vb r) w O S []:=by
 refine CW 15 Tryz.func126 ?_;refine SR<|zA (vb false)<|RM<|bE a λf a h=>sJ H (rg [6,9]) [(6,vb f)] ?_ ?_;refine zG<|zC (i6 b)<|zC (i6 c)<|uI a λi a=>RJ a (λa=>zC (i6 b)<|zC (i6 d)<|aDr a λe a=>pt (vb e)<|zA (vb e) ?_) λa=>?_;cases a;exact jn<|mt () (H.U []);refine zL<|zL<|zL<|pf (vb false)<|zA (vb false) ?_;cases a;exact jn<|mt () (H.U []);rintro _ ρ j H;have a:=h;cases a;exact zI<|p1z ⟨Z,H.U []⟩
theorem Fe1w {f:Series}{h:Value}{r:Int×Int}(c:Fe1 f=some r)(H:Hd O w w S [aBb h f.Samples]):
  Rt 107 [.agg [i6 f.Den,h].toArray] (.tuple #[i6 r.1,i6 r.2]) w O S []:=by
 refine CW 67 Tryz.func107 ?_;refine SR<|xb (yL (cs:=[i6 f.Den,h]) Z H) λu _ H=>zA (i6 0)<|zA (i6 0)<|RM<|SQ<|SR<|zM (aKg Z)<|Ld gX H 1 0 Z Z<|bE c λ_ z c=>RC bCg (Fbew z (H.W [] [])) H λ_ H=>dJ c λ_ c=>RM<|WJ c (λc=>SR<|zA (i6 (-1))<|zA (i6 9)<|RM ?_) λc=>?_;cases c;exact zI<|zF<|uB Z Z Z ⟨Z,H.U []⟩;refine WZ<|SQ<|SR<|zM (aY Z)<|Ld nV H 1 1 Z Z<|ln c (H.im 0 Z) u80 λ_ c=>aW c λ_ c=>RM<|WJ c (λc=>SR<|zA (i6 (-1))<|zA (i6 3)<|RM ?_) λc=>?_;cases c;exact zI<|zF<|uB Z Z Z ⟨Z,H.U []⟩;refine WZ<|jk c H (rg [2,4,14,53]) (λx (y:Unit)=>[]) (λx y=>[]) [] (λ_ c=>?_) ?_;refine SR<|zM (aY Z)<|Ld nV H 1 1 Z Z<|ln c (H.im 0 Z) u80 λ_ c=>zC (i6 0)<|RM<|zJ<|lo c H (rg [2,4,17,50]) (λx (y:Unit)=>[(17,i6 x)]) (λx y=>[]) [0,1] () (H.U [0,1]) ?_;clear H c;rintro _ d _ ρ _ H c;have H:=un2 H;refine SR<|fP c λ_ c=>RM<|SQ<|WJ c (λc=>WZ<|SQ<|zJ<|SR<|zC (i6 d)<|bE c λe l c=>?_) λc=>?_;obtain⟨n,o,a0,_,A,B,C,D,E⟩:=yV (H.im 0 Z) l;obtain rfl:=xQ B;have H:=H.fz (.at n (o+d.toNat*3) _) ⟨C,D,E⟩;refine ix u80 kK A l<|zM (yQ (zZ (cs:=[i6 e.At,i6 e.N,i6 e.Mark]) sW Z kK Z (H.im 2 Z).2.2) Z)<|xb (yI wU H) λF a2 H=>zA (i6 d)<|xu (zX (vs:=[i6 e.At,i6 e.N,i6 e.Mark]) H 3 Z kK Z Z Z ⟨Z,Z,Z,T1⟩ Z) λa3 H=>RM<|zJ<|bE c λG c I=>jo H (rg [22,17]) (λ(g:Unit)=>[(22,vb G)]) (λg=>[]) [0,1,3] ?_ ?_
 refine zG<|zM (wO Z)<|Ld gX H 3 0 Z Z<|bE c λa4 J c=>RC bCg (Fbew J (H.W [] [])) H λa5 H=>dJ c λ_ c=>bE c λK c L=>xH 6 [27,28,29,30,31,32] [(32,vb K)] (λwl=>Hd O w wl S [aBb h f.Samples,.blk u [i6 f.Den,h] 82,.fz (.at n (o+d.toNat*3) [i6 e.At,i6 e.N,i6 e.Mark]),.blk F [i6 e.At,i6 e.N,i6 e.Mark] 87]) ?_ ?_;refine RJ c (λc=>zL<|zL<|zL<|zL<|pt (vb true) ?_) λc=>?_;cases c;exact jn<|meet ⟨(yE Z yS),H.U [0,1,2,3]⟩;refine zM (wJ Z)<|Ld gX H 3 1 Z Z<|bE c λ_ M c=>RC bCg (Fbew M (H.W [] [])) H λ_ H=>dJ c λP c=>pf (vb P) ?_;cases c;exact jn<|meet ⟨(yE Z yS),H.U [0,1,2,3]⟩;rintro ρ a9 H;have c:=L;refine RJ c (λc=>zL<|zL<|zL<|zL<|pt (vb true)<|zA (vb true) ?_) λc=>?_;cases c;exact jn<|mt () (H.U [0,1,3]);refine zM (aCf Z)<|Ld gX H 3 2 Z Z<|bE c λ_ Q c=>RC bCg (Fbew Q (H.W [] [])) H λ_ H=>dJ c λp c=>pf (vb p)<|zA (vb p) ?_;cases c;exact jn<|mt () (H.U [0,1,3]);rintro _ ρ _ H;have H:=un3 H;have c:=I;refine WJ c (λc=>SR<|zC (i6 d)<|zA (i6 d)<|zA (i6 9)<|RM ?_) λc=>?_;cases c;exact zI<|zK<|zK<|zF<|zF<|zK<|zF<|uB Z Z Z ⟨Z,H.U []⟩;refine bE c λR c T=>sJ H (rg [40,9]) [(40,vb R)] ?_ ?_;refine zG<|zM (wJ Z)<|Ld gX H 2 1 Z Z<|aI c λ_ c=>RJ c (λc=>zM (aCf Z)<|Ld gX H 2 2 Z Z<|aDr c λq c=>pt (vb q)<|zA (vb q) ?_) λc=>?_;cases c;exact jn<|mt () (H.U [0,1,2]);refine zL<|zL<|zL<|pf (vb false)<|zA (vb false) ?_
 cases c;exact jn<|mt () (H.U [0,1,2]);rintro _ ρ _ H;have c:=T;refine WJ c (λc=>SR<|zC (i6 d)<|zA (i6 d)<|zA (i6 2)<|RM ?_) λc=>?_;cases c;exact zI<|zK<|zK<|zF<|zF<|zK<|zF<|uB Z Z Z ⟨Z,H.U []⟩;refine bE c λU c V=>jo H (rg [50,15]) (λ(g:Unit)=>[(50,vb U)]) (λg=>[]) [0,1] ?_ ?_;have s:=H;have H:=H.rb;have bf:=H;refine yG H (rg [0,15]) (kz [0,0,0,0,1,0,1,0,0,0,0,1,0,0,0]) mixed ?_;refine XM (i6 d)<|lE c λX Y c=>XQ (dY (vC (a:=d) (b:=0) Z Z) Y)<|MxM.XL_splitb (b:=X) Z Z Z Z (λj=>?_) (λj=>?_);have c:=aAj j c;refine XQ (wO Z)<|XR gX H 2 0 Z Z<|XQ (aY Z)<|XR nV H 1 1 Z Z<|XM (i6 d)<|lE c λaa ab c=>XQ (jQ (a:=d) (b:=1) Z Z ab)<|bE c λac k c=>?_;obtain⟨ad,ae,_,_,af,ag,ah,ai,aj⟩:=yV (H.im 0 Z) k;obtain rfl:=xQ ag;have H:=H.fz (.at ad (ae+aa.toNat*3) _) ⟨ah,ai,aj⟩;refine XQ (yZ u80 kK af Z (zV k).1 (zV k).2.1 Z Z)<|XQ (wO Z)<|MxM.yX oS Z Z Z (λ_ ak=>yD gX Z (Cells.get ((H.Z ak).V (i:=3) Z).2.2 (i:=0) Z)) ?_;refine lE c λt al c=>XQ (dY (aTm (a:=e.At) (b:=ac.At) Z Z) al)<|XQ (nN (v:=vb t) Z Z)<|XQ (yC (v:=vb t) Z)<|nJ s H λ_ H=>?_;cases c;exact zH<|mt () (H.U [0,1]);have c:=aAm j c;refine XO<|MxM.XL_offr oS Z Z Z ?_;refine XO<|MxM.XL_offr oS Z Z Z ?_;refine XO<|XO<|XO<|XO<|MxM.XL_offr oS Z Z Z ?_;refine XO<|XQ (qJ (v:=vb false) Z Z)<|XQ (yC (v:=vb false) Z)<|nJ s H λ_ H=>?_;cases c;exact zH<|mt () (H.U [0,1])
 rintro _ ρ _ H;have H:=un2 H;have c:=V;refine WJ c (λc=>SR<|zC (i6 d)<|zA (i6 d)<|zA (i6 10)<|RM ?_) λc=>?_;cases c;exact zI<|zK<|zK<|zF<|zF<|zK<|zF<|uB Z Z Z ⟨Z,H.U []⟩;exact yK<|zQ<|zQ<|zH<|KN<|zG<|fQ c λam c=>zC (i6 am)<|jn<|me c () (H.U [0,1]);exact zY<|zS<|zS<|zU<|zH<|me c () (H.U []);rintro _ _ ρ _ H c;refine SR<|zA (i6 (-1))<|zA (i6 0)<|RM ?_;cases c;exact zI<|uB Z Z Z ⟨Z,H.U []⟩
theorem Febw {b:Series}{c:Value}{r:Int}(d:Feb b=some r)(H:Hd O w w S [aBb c b.Samples]):
  Rt 85 [.agg [i6 b.Den,c].toArray] (i6 r) w O S []:=by
 refine CW 11 Tryz.func85 ?_;refine SR<|xb (yL (cs:=[i6 b.Den,c]) Z H) λh i H=>zA (i6 0)<|RM<|SR<|lb H 1 Z aGo aLq ?_;obtain⟨⟨e,a⟩,f,d⟩:=yR d;refine RC (fF Tryz.func107) (Fe1w f (H.W [] [0])) H λj H=>zC (.tuple #[i6 e,i6 a])<|zM (yB (v:=i6 e) Z Z)<|zM (yB (v:=i6 a) Z Z)<|zA (i6 e)<|zA (i6 a)<|RM<|SR<|zC (i6 a)<|zA (i6 a)<|RM ?_;cases d;exact zI<|p1z ⟨Z,H.U []⟩
theorem Fdkw {h:List Track}{c:Value}{r:Int}(a:Fdk h=some r)(H:Hd O w w S [nR c h]):
  Rt 46 [c] (i6 r) w O S []:=by
 refine CW 36 Tryz.func46 ?_;refine SR<|zA (i6 0)<|RM<|SQ<|SR<|zC c<|ln a (H.im 0 Z) u36 λG a=>aW a λI a=>RM<|WJ a (λa=>SR<|zA (i6 3)<|RM ?_) λa=>?_;cases a;exact zI<|zF<|p1z ⟨Z,H.U []⟩;refine WZ<|jk a H (rg [2,4,9,27]) (λx (y:Unit)=>[]) (λx y=>[]) [] (λJ a=>?_) ?_;refine SR<|zC c<|ln a (H.im 0 Z) u36 λK a=>zC (i6 0)<|RM<|zJ<|lo a H (rg [2,4,11,25]) (λx (y:Unit)=>[(11,i6 x)]) (λx y=>[]) [0] () (H.U [0]) ?_;clear H a;rintro L d _ ρ M H a;have H:=un1 H;refine SR<|fP a λN a=>RM<|SQ<|WJ a (λa=>WZ<|SQ<|zJ<|SR<|zC (i6 d)<|bE a λb i a=>?_) λa=>?_;obtain⟨j,k,P,Q,l,n,o,p,q⟩:=yV (H.im 0 Z) i;obtain⟨e,rfl,s⟩:=xK n;have H:=H.fzs [.at j (k+d.toNat*4) _,.sl eG e b.Series.Samples] ⟨⟨o,p,q⟩,s,T1⟩;refine ix u36 nS l i<|zM (yQ (zZ (cs:=[sb b.Name,i6 b.Series.Den,e,i6 b.Long]) aGi Z nS Z (H.im 1 Z).2.2) Z)<|xb (yI aNm H) λ_ T H=>zA (i6 d)<|xu (zX (vs:=[sb b.Name,i6 b.Series.Den,e,i6 b.Long]) H 3 Z nS Z Z Z ⟨Z,Z,(xU (H.im 2 Z)),Z,T1⟩ Z) λU H=>RM<|SQ<|SR<|zM (qV Z)<|Ld eH H 3 0 Z Z<|bE a λV t a=>RC en23 (Faxw t (H.W [] [])) H λX H=>dJ a λY a=>RM<|WJ a (λa=>SR<|zA (i6 8)<|RM ?_) λa=>?_;cases a;exact zI<|zF<|zK<|zF<|zF<|zK<|zF<|p1z ⟨Z,H.U []⟩;refine WZ<|SQ<|SR<|zC c<|zC (i6 d)<|bE a λu v a=>wK Z Z (mJ u36 nS (H.im 0 Z) Z Z v) ?_;rintro z A;have H:=H.fz (.sl eX z u) A;refine zM (kL Z)<|bE a λ_ B a=>cAz (fF Tryz.func83) (Fdnw B (H.W [3] [4,2])) λ_ C=>?_
 have H:=un5<|H.back [3] [4,2] Z C;refine RM<|WJ a (λa=>SR<|zA (i6 5)<|RM ?_) λa=>?_;cases a;exact zI<|zF<|zK<|zF<|zF<|zK<|zF<|p1z ⟨Z,H.U []⟩;refine WZ<|SQ<|SR<|zM (qP Z)<|zM (yQ (zZ (cs:=[i6 b.Series.Den,e]) aGo Z aLq Z (Cells.drop (Hbc H 4 Z) 1 2)) Z)<|bE a λf D a=>RC (fF Tryz.func85) (Febw D (H.W [] [2])) H λ_ H=>zA (i6 f)<|RM<|SR<|zC (i6 f)<|aI a λ_ a=>RM<|WJ a (λa=>SR<|zC (i6 f)<|zA (i6 f)<|RM ?_) λa=>?_;cases a;exact zI<|zF<|zK<|zF<|zF<|zK<|zF<|p1z ⟨Z,H.U []⟩;refine WZ<|SR<|zM (aRe Z)<|Ld gX H 4 3 Z Z<|bE a λ_ E a=>RC bAf (bAs E (H.W [] [])) H λaf H=>dJ a λ_ a=>RM<|WJ a (λa=>SR<|zA (i6 9)<|RM ?_) λa=>?_;cases a;exact zI<|zK<|zF<|zF<|zK<|zF<|p1z ⟨Z,H.U []⟩;exact yK<|zQ<|zH<|KN<|zG<|fQ a λF a=>zC (i6 F)<|jn<|me a () (H.U [0]);exact zY<|zS<|zS<|zU<|zH<|me a () (H.U []);rintro _ _ ρ _ H a;refine SR<|zA (i6 0)<|RM ?_;cases a;exact zI<|p1z ⟨Z,H.U []⟩
theorem Fexw {b:Flight}{c:Value}{r:Int}(a:Fex b=some r)(H:Hd O w w S [nR c b.Tracks]):
  Rt 22 [.agg [sb b.Tail,sb b.Route,i6 b.Day,i6 b.From,i6 b.To,c].toArray] (i6 r) w O S []:=by
 refine CW 58 Tryz.func22 ?_;refine SR<|xb (yL (cs:=[sb b.Tail,sb b.Route,i6 b.Day,i6 b.From,i6 b.To,c]) Z H) λd F H=>zA (i6 0)<|RM<|SQ<|zJ<|bE a λi a j=>sJ H (rg [3,16]) [(3,vb i)] ?_ ?_;refine zG<|zM (aHb Z)<|Ld eH H 1 0 Z Z<|RLb a (sS (s1:=b.Tail) (s2:=[]) Z Z) λG a=>bE a λk a l=>xH 6 [7,8,9,10,11,12] [(12,vb k)] (λwl=>Hd O w wl S [nR c b.Tracks,.blk d [sb b.Tail,sb b.Route,i6 b.Day,i6 b.From,i6 b.To,c] 38]) ?_ ?_;refine RJ a (λa=>zM (aHb Z)<|Ld eH H 1 0 Z Z<|bE a λI n a=>RC en29 (Fbhw n (H.W [] [])) H λJ H=>dJ a λo a=>pt (vb o) ?_) λa=>?_;cases a;exact jn<|meet ⟨(yE Z yS),H.U [0,1]⟩;refine zL<|zL<|zL<|zL<|pf (vb false) ?_;cases a;exact jn<|meet ⟨(yE Z yS),H.U [0,1]⟩;rintro ρ K H;have a:=l;refine RJ a (λa=>zL<|zL<|zL<|zL<|pt (vb true)<|zA (vb true) ?_) λa=>?_;cases a;exact jn<|mt () (H.U [0,1]);refine zM (fa38_1 Z)<|Ld eH H 1 1 Z Z<|bE a λL p a=>RC en29 (Fbhw p (H.W [] [])) H λM H=>dJ a λe a=>pf (vb e)<|zA (vb e) ?_;cases a;exact jn<|mt () (H.U [0,1]);rintro _ ρ N H;have a:=j;refine WJ a (λa=>SR<|zA (i6 8)<|RM ?_) λa=>?_;cases a;exact zI<|zK<|zF<|p1z ⟨Z,H.U []⟩;refine bE a λq a s=>sJ H (rg [19,22]) [(19,vb q)] ?_ ?_;refine zG<|zM (qF Z)<|Ld gX H 1 2 Z Z<|bE a λP t a=>RC en27 (Fa7w t (H.W [] [])) H λQ H=>dJ a λ_ a=>bE a λu a v=>xH 5 [24,25,26,27,28] [(28,vb u)] (λwl=>Hd O w wl S [nR c b.Tracks,.blk d [sb b.Tail,sb b.Route,i6 b.Day,i6 b.From,i6 b.To,c] 38]) ?_ ?_
 refine RJ a (λa=>zL<|zL<|zL<|pt (vb true) ?_) λa=>?_;cases a;exact jn<|meet ⟨(yE Z yS),H.U [0,1]⟩;refine zM (aAz Z)<|Ld gX H 1 3 Z Z<|fP a λx a=>pf (vb x) ?_;cases a;exact jn<|meet ⟨(yE Z yS),H.U [0,1]⟩;rintro ρ T H;have a:=v;refine bE a λy a z=>xH 7 [29,30,31,32,33,34,35] [(35,vb y)] (λwl=>Hd O w wl S [nR c b.Tracks,.blk d [sb b.Tail,sb b.Route,i6 b.Day,i6 b.From,i6 b.To,c] 38]) ?_ ?_;refine RJ a (λa=>zL<|zL<|zL<|zL<|zL<|pt (vb true) ?_) λa=>?_;cases a;exact jn<|meet ⟨(yE Z yS),H.U [0,1]⟩;refine zM (aAz Z)<|Ld gX H 1 3 Z Z<|zM (aCg Z)<|Ld gX H 1 4 Z Z<|aW a λA a=>pf (vb A) ?_;cases a;exact jn<|meet ⟨(yE Z yS),H.U [0,1]⟩;rintro ρ U H;have a:=z;refine RJ a (λa=>zL<|zL<|zL<|pt (vb true)<|zA (vb true) ?_) λa=>?_;cases a;exact jn<|mt () (H.U [0,1]);refine zM (aCg Z)<|Ld gX H 1 4 Z Z<|uI a λf a=>pf (vb f)<|zA (vb f) ?_;cases a;exact jn<|mt () (H.U [0,1]);rintro _ ρ V H;have a:=s;refine WJ a (λa=>SR<|zA (i6 9)<|RM ?_) λa=>?_;cases a;exact zI<|zK<|zF<|p1z ⟨Z,H.U []⟩;refine bE a λB a C=>sJ H (rg [41,14]) [(41,vb B)] ?_ ?_;refine zG<|zM (aCg Z)<|Ld gX H 1 4 Z Z<|zM (aAz Z)<|Ld gX H 1 3 Z Z<|qM a λX a=>fQ a λY a=>aW a λ_ a=>RJ a (λa=>zL<|zL<|zL<|zL<|pt (vb true)<|zA (vb true) ?_) λa=>?_;cases a;exact jn<|mt () (H.U [0,1]);refine zM (mW Z)<|Ld vZ H 1 5 Z Z<|ln a (H.im 0 Z) u36 λ_ a=>aW a λh a=>pf (vb h)<|zA (vb h) ?_
 cases a;exact jn<|mt () (H.U [0,1]);rintro _ ρ _ H;have a:=C;refine WJ a (λa=>SR<|zA (i6 3)<|RM ?_) λa=>?_;cases a;exact zI<|zK<|zF<|p1z ⟨Z,H.U []⟩;refine yK<|zQ<|zH<|KN<|SR<|zM (mW Z)<|Ld vZ H 1 5 Z Z<|bE a λD E a=>RC (fF Tryz.func46) (Fdkw E (H.W [] [0])) H λ_ H=>zA (i6 D)<|RM ?_;cases a;exact zI<|p1z ⟨Z,H.U []⟩
theorem Fetw {f:List Flight}{c:Value}{r:Int}(a:Fet f=some r)(H:Hd O w w S [f1 kU c f]):
  Rt 7 [c] (i6 r) w O S []:=by
 refine CW 21 Tryz.func7 ?_;refine SR<|zA (i6 0)<|RM<|SQ<|SR<|zC c<|ln a (H.im 0 Z) u22 λv a=>aW a λz a=>RM<|WJ a (λa=>SR<|zA (i6 3)<|RM ?_) λa=>?_;cases a;exact zI<|zF<|p1z ⟨Z,H.U []⟩;refine WZ<|jk a H (rg [2,1,4,2,9,12]) (λx (y:Unit)=>[]) (λx y=>[]) [] (λA a=>?_) ?_;refine SR<|zC c<|ln a (H.im 0 Z) u22 λB a=>zC (i6 0)<|RM<|zJ<|lo a H (rg [2,1,4,2,11,10]) (λx (y:Unit)=>[(11,i6 x)]) (λx y=>[]) [0] () (H.U [0]) ?_;clear H a;rintro C i _ ρ D H a;have H:=un1 H;refine SR<|fP a λE a=>RM<|SQ<|WJ a (λa=>WZ<|SQ<|zJ<|SR<|bE a λb h a=>?_) λa=>?_;obtain⟨j,k,F,G,l,n,o,p,q⟩:=yV (H.im 0 Z) h;obtain⟨e,rfl,s⟩:=rD n;have H:=H.fzs [.at j (k+i.toNat*6) _,.sl eX e b.Tracks] ⟨⟨o,p,q⟩,s,T1⟩;refine ix u22 qK l h<|zM (yQ (zZ (cs:=[sb b.Tail,sb b.Route,i6 b.Day,i6 b.From,i6 b.To,e]) rF Z qK Z (H.im 1 Z).2.2) Z)<|xb (yI aEu H) λI J H=>xu (zX (vs:=[sb b.Tail,sb b.Route,i6 b.Day,i6 b.From,i6 b.To,e]) H 3 Z qK Z Z Z ⟨Z,Z,Z,Z,Z,(xU (H.im 2 Z)),T1⟩ Z) λK H=>RM<|SR<|lb H 3 Z rF qK<|bE a λd t a=>RC (fF Tryz.func22) (Fexw t (H.W [] [2])) H λL H=>zA (i6 d)<|RM<|SR<|zC (i6 d)<|aI a λM a=>RM<|WJ a (λa=>SR<|zC (i6 d)<|zA (i6 d)<|RM ?_) λa=>?_;cases a;exact zI<|zK<|zF<|zF<|zK<|zF<|p1z ⟨Z,H.U []⟩;exact yK<|zQ<|zH<|KN<|zG<|fQ a λu a=>zC (i6 u)<|jn<|me a () (H.U [0]);exact zY<|zS<|zS<|zU<|zH<|me a () (H.U [])
 rintro _ _ ρ N H a;refine SR<|zA (i6 0)<|RM ?_;cases a;exact zI<|p1z ⟨Z,H.U []⟩
theorem Faiw {e:List Str}{c:Str}{d:Value}{r:Int}(a:Fai e c=some r)(H:Hd O w w S [fU d e]):
  Rt 50 [d,sb c] (i6 r) w O S []:=by
 refine CW 19 Tryz.func50 ?_;refine SR<|zA (i6 0)<|RM<|jk a H (rg [4,15]) (λx (y:Unit)=>[]) (λx y=>[]) [] (λj a=>?_) ?_;refine SR<|zC d<|ln a (H.im 0 Z) u23 λk a=>zC (i6 0)<|RM<|zJ<|lo a H (rg [4,2,8,11]) (λx (y:Unit)=>[(8,i6 x)]) (λx y=>[]) [0] () (H.U [0]) ?_;clear H a;rintro l b _ ρ n H a;have H:=un1 H;refine SR<|fP a λo a=>RM<|SQ<|WJ a (λa=>WZ<|SQ<|zJ<|SR<|zC (i6 b)<|zA (i6 b)<|RM<|SR<|zC (sb c)<|zC d<|zC (i6 b)<|bE a λf h a=>rea H (H.im 0 Z) (sb f) h u23 sz9 eH λp q H=>RLb a (xR (s1:=c) (s2:=f) Z Z) λs a=>RM<|WJ a (λa=>SR<|zC (i6 b)<|zA (i6 b)<|RM ?_) λa=>?_) λa=>?_;cases a;exact zI<|zK<|zF<|zF<|zK<|zF<|p1z ⟨Z,H.U []⟩;exact yK<|zQ<|zH<|KN<|zG<|fQ a λi a=>zC (i6 i)<|jn<|me a () (H.U [0]);exact zY<|zS<|zS<|zU<|zH<|me a () (H.U []);rintro _ _ ρ t H a;refine SR<|zA (i6 (-1))<|RM ?_;cases a;exact zI<|p1z ⟨Z,H.U []⟩
theorem Fauw {d:List Str}{b:Str}{c:Value}{r:Bool}(a:Fau d b=some r)(H:Hd O w w S [fU c d]):
  Rt 24 [c,sb b] (vb r) w O S []:=by
 refine CW 9 Tryz.func24 ?_;refine SR<|zA (vb false)<|RM<|SR<|zC c<|zC (sb b)<|bE a λh e a=>RC en50 (Faiw e (H.W [] [0])) H λi H=>uI a λf a=>zA (vb f)<|RM ?_;cases a;exact zI<|p1z ⟨Z,H.U []⟩
abbrev Fgj (f:Cond->Int->Int->Option (Bool×Int)):Prop:= ∀(p0:Cond) (p1:Int) (p2:Int) (v1:Value) (b3:Nat) (r:Bool×Int) (_:f p0 p1 p2=some r) (O S:List Nat) (w:World) (_:Hd O w w S [.blk b3 [i6 p2] 3,dI v1 p0.Kids]),
  Cl 86 [.agg [i6 p0.Kind,sb p0.Name,sb p0.Other,i6 p0.Op,i6 p0.N,i6 p0.Frames,v1].toArray,i6 p1,gW b3] w λe w'=>e= .returned (vb r.1)/\Hd O w w' S [.blk b3 [i6 r.2] 3]
theorem Fc8w (rfA:Cond->Int->Int->Option (Bool×Int))(rhA:Fgj rfA)(b:Cond)(f j:Int)(i:Value)(d:Nat)(r:Bool×Int)(a:Fc8 rfA b f j=some r)(O S:List Nat)(w:World)(H:Hd O w w S [.blk d [i6 j] 3,dI i b.Kids]):
  Cl 86 [.agg [i6 b.Kind,sb b.Name,sb b.Other,i6 b.Op,i6 b.N,i6 b.Frames,i].toArray,i6 f,gW d] w λe l=>e= .returned (vb r.1)/\Hd O w l S [.blk d [i6 r.2] 3]:=by
 unfold Fc8 at a;refine CW 36 Tryz.func86 ?_;refine SR<|xb (yL (cs:=[i6 b.Kind,sb b.Name,sb b.Other,i6 b.Op,i6 b.N,i6 b.Frames,i]) Z H) λL M H=>zA (vb false)<|RM<|SR<|zC (gW d)<|zM (kM Z)<|Ld gX H 0 0 Z Z<|fQ a λn a=>zM (kM Z)<|xu (yU H 0 Z sz3 Z (v:=i6 n) Z Z Z) λP H=>RM<|SQ<|bE a λo a p=>sJ H (rg [14,8]) [(21,vb o)] ?_ ?_;refine zG<|zC (i6 f)<|fD a λQ a=>RJ a (λa=>zL<|zL<|zL<|zL<|pt (vb true) ?_) λa=>?_;cases a;exact jn<|mt () (H.U [0,1,2]);refine zC (gW d)<|zM (kM Z)<|Ld gX H 0 0 Z Z<|aW a λq a=>pf (vb q) ?_;cases a;exact jn<|mt () (H.U [0,1,2]);rintro _ ρ _ H;have a:=p;refine WJ a (λa=>SR<|zA (vb false)<|RM ?_) λa=>?_;cases a;exact zI<|zF<|p1z ⟨Z,H.U [0]⟩;refine WZ<|jk a H (rg [6,1,8,1,22,14]) (λx (y:Unit)=>[]) (λx y=>[.blk d [i6 x] 3]) [0] (λT a=>?_) ?_;refine SR<|zM (aX Z)<|Ld mD H 2 6 Z Z<|ln a (H.im 1 Z) u45 λU a=>zC (i6 0)<|RM<|zJ ?_;unfold Fg4 at a;refine lo a H (rg [6,1,8,1,25,11]) (λx (y:Unit)=>[(25,i6 x.1)]) (λx y=>[.blk d [i6 x.2] 3]) [0,2] () (H.U [0,1]) ?_;clear H a;rintro V ⟨s,t⟩ _ ρ X H a;have H:=un2 H;refine SR<|fP a λY a=>RM<|SQ<|WJ a (λa=>WZ<|SQ<|zJ<|SR<|bE a λc k a=>?_) λa=>?_;obtain⟨u,z,_,_,A,B,C,D,E⟩:=yV (H.im 1 Z) k;obtain⟨h,rfl,F⟩:=dP B;have H:=H.fzs [.at u (z+s.toNat*7) _,.sl dK h c.Kids] ⟨⟨C,D,E⟩,F,T1⟩;refine ix u45 dL A k<|zM (yQ (zZ (cs:=[i6 c.Kind,sb c.Name,sb c.Other,i6 c.Op,i6 c.N,i6 c.Frames,h]) dD Z dL Z (H.im 2 Z).2.2) Z)<|xb (yI aEg H) λ_ _ H=>xu (zX (vs:=[i6 c.Kind,sb c.Name,sb c.Other,i6 c.Op,i6 c.N,i6 c.Frames,h]) H 4 Z dL Z Z Z ⟨Z,Z,Z,Z,Z,Z,(xU (H.im 3 Z)),T1⟩ Z) λ_ H=>RM<|SR<|lb H 4 Z dD dL<|zC (i6 f)<|qM a λG a=>zC (gW d) ?_
 obtain⟨⟨af,_⟩,I,a⟩:=yR a;refine cAz en86 (rhA c G t h d _ I _ _ _ (H.W [0] [3])) λ_ J=>?_;have H:=un5<|H.back [0] [3] Z J;refine dJ a λ_ a=>RM<|WJ a (λa=>SR<|zA (vb false)<|RM ?_) λa=>?_;cases a;exact zI<|zK<|zF<|zF<|zK<|zF<|p1z ⟨Z,H.U [4]⟩;exact yK<|zQ<|zH<|KN<|zG<|fQ a λK a=>zC (i6 K)<|jn<|me a () (H.U [4,0]);exact zY<|zS<|zS<|zU<|zH<|me a () (H.U [0]);rintro _ _ ρ _ H a;have H:=un1 H;refine SR<|zA (vb true)<|RM ?_;cases a;exact zI<|p1z ⟨Z,H.U [0]⟩
theorem Fi4:Fgj (Feo):=by
 have h: ∀n,Fgj (Fav n):=by
  intro n
  induction n with
  |zero=>intro b c d e f r a;cases a
  |succ n ih=>intro b c d e f r a;exact Fc8w (Fav n) ih b c d e f r a
 exact h FU
theorem Fafw {b:Int}{r:cZ×Bool}(a:Faf b=some r)(H:Hd O w w S []):
  Rt 108 [i6 b] (.tuple #[.agg [vb r.1.name,vb r.1.other,vb r.1.op,vb r.1.n,vb r.1.frames,i6 r.1.least,i6 r.1.most].toArray,vb r.2]) w O S []:=by
 refine CW 41 Tryz.func108 ?_;refine SR<|xb (yI bCh H) λG I H=>zA (vb false)<|RM<|SQ<|SR<|zC (i6 b)<|RM<|zJ<|bE a λc a d=>sJ H [5,6,7] [(5,vb c)] ?_ ?_;refine SR<|fD a λe a=>zA (vb e)<|RM<|WJ a ?_ ?_<;>intro a;cases a;exact js<|mt () (H.U [0]);refine zG<|fD a λf a=>zA (vb f) ?_;cases a;exact jn<|mt () (H.U [0]);rintro _ ρ J H;have a:=d;refine WJ a (λa=>SR<|zM (yO (cs:=[vb false,vb false,vb false,vb false,vb false,i6 0,i6 0]) bz169)<|xu (zX (vs:=[vb false,vb false,vb false,vb false,vb false,i6 0,i6 0]) H 0 Z mY Z Z Z ⟨Z,Z,Z,Z,Z,Z,Z,T1⟩ Z) λK H=>zA (vb true)<|RM ?_) λa=>?_;cases a;exact zI<|zK<|zF<|dH (v1:=vb true) Z Z (yA vS mY Z (Hbc H 0 Z)) Z ⟨Z,H.U []⟩;refine SR<|fD a λh a=>zA (vb h)<|RM<|WJ a (λa=>SR<|zM (yO (cs:=[vb true,vb false,vb true,vb true,vb false,i6 0,i6 0]) (aVa _ _ _))<|xu (zX (vs:=[vb true,vb false,vb true,vb true,vb false,i6 0,i6 0]) H 0 Z mY Z Z Z ⟨Z,Z,Z,Z,Z,Z,Z,T1⟩ Z) λL H=>zA (vb true)<|RM ?_) λa=>?_;cases a;exact zI<|zK<|zF<|dH (v1:=vb true) Z Z (yA vS mY Z (Hbc H 0 Z)) Z ⟨Z,H.U []⟩;refine SR<|fD a λi a=>zA (vb i)<|RM<|WJ a (λa=>SR<|zM (yO (cs:=[vb true,vb true,vb true,vb false,vb false,i6 0,i6 0]) (aWr _ _ _))<|xu (zX (vs:=[vb true,vb true,vb true,vb false,vb false,i6 0,i6 0]) H 0 Z mY Z Z Z ⟨Z,Z,Z,Z,Z,Z,Z,T1⟩ Z) λM H=>zA (vb true)<|RM ?_) λa=>?_
 cases a;exact zI<|zK<|zF<|dH (v1:=vb true) Z Z (yA vS mY Z (Hbc H 0 Z)) Z ⟨Z,H.U []⟩;refine SR<|fD a λj a=>zA (vb j)<|RM<|WJ a (λa=>SR<|zM (yO (cs:=[vb true,vb false,vb false,vb true,vb true,i6 0,i6 0]) (aVk _ _ _))<|xu (zX (vs:=[vb true,vb false,vb false,vb true,vb true,i6 0,i6 0]) H 0 Z mY Z Z Z ⟨Z,Z,Z,Z,Z,Z,Z,T1⟩ Z) λN H=>zA (vb true)<|RM ?_) λa=>?_;cases a;exact zI<|zK<|zF<|dH (v1:=vb true) Z Z (yA vS mY Z (Hbc H 0 Z)) Z ⟨Z,H.U []⟩;refine bE a λk a l=>sJ H [18,19,20] [(18,vb k)] ?_ ?_;refine SR<|fD a λo a=>zA (vb o)<|RM<|WJ a ?_ ?_<;>intro a;cases a;exact js<|mt () (H.U [0]);refine zG<|fD a λp a=>zA (vb p) ?_;cases a;exact jn<|mt () (H.U [0]);rintro _ ρ P H;have a:=l;refine WJ a (λa=>SR<|zM (yO (cs:=[vb true,vb false,vb false,vb false,vb false,i6 0,i6 0]) (bt169_0 _))<|xu (zX (vs:=[vb true,vb false,vb false,vb false,vb false,i6 0,i6 0]) H 0 Z mY Z Z Z ⟨Z,Z,Z,Z,Z,Z,Z,T1⟩ Z) λQ H=>zA (vb true)<|RM ?_) λa=>?_;cases a;exact zI<|zK<|zF<|dH (v1:=vb true) Z Z (yA vS mY Z (Hbc H 0 Z)) Z ⟨Z,H.U []⟩;refine bE a λq a s=>sJ H [22,23,24] [(22,vb q)] ?_ ?_;refine SR<|fD a λt a=>zA (vb t)<|RM<|WJ a ?_ ?_<;>intro a;cases a;exact js<|mt () (H.U [0]);refine zG<|fD a λu a=>zA (vb u) ?_;cases a;exact jn<|mt () (H.U [0]);rintro _ ρ _ H;have a:=s;refine WJ a (λa=>SR<|zM (yO (cs:=[vb false,vb false,vb false,vb false,vb false,i6 1,i6 1]) (aHg _ _))<|xu (zX (vs:=[vb false,vb false,vb false,vb false,vb false,i6 1,i6 1]) H 0 Z mY Z Z Z ⟨Z,Z,Z,Z,Z,Z,Z,T1⟩ Z) λT H=>zA (vb true)<|RM ?_) λa=>?_
 cases a;exact zI<|zK<|zF<|dH (v1:=vb true) Z Z (yA vS mY Z (Hbc H 0 Z)) Z ⟨Z,H.U []⟩;refine bE a λv a x=>sJ H [26,27,28] [(26,vb v)] ?_ ?_;refine SR<|fD a λy a=>zA (vb y)<|RM<|WJ a ?_ ?_<;>intro a;cases a;exact js<|mt () (H.U [0]);refine zG<|fD a λz a=>zA (vb z) ?_;cases a;exact jn<|mt () (H.U [0]);rintro _ ρ U H;have a:=x;refine WJ a (λa=>SR<|zM (yO (cs:=[vb false,vb false,vb false,vb false,vb false,i6 2,i6 200]) (aHg _ _))<|xu (zX (vs:=[vb false,vb false,vb false,vb false,vb false,i6 2,i6 200]) H 0 Z mY Z Z Z ⟨Z,Z,Z,Z,Z,Z,Z,T1⟩ Z) λV H=>zA (vb true)<|RM ?_) λa=>?_;cases a;exact zI<|zK<|zF<|dH (v1:=vb true) Z Z (yA vS mY Z (Hbc H 0 Z)) Z ⟨Z,H.U []⟩;refine bE a λA a B=>sJ H [30,31,32] [(30,vb A)] ?_ ?_;refine SR<|fD a λC a=>zA (vb C)<|RM<|WJ a ?_ ?_<;>intro a;cases a;exact js<|mt () (H.U [0]);refine zG<|fD a λD a=>zA (vb D) ?_;cases a;exact jn<|mt () (H.U [0]);rintro _ ρ X H;have a:=B;refine WJ a (λa=>SR<|zM (yO (cs:=[vb false,vb false,vb false,vb false,vb true,i6 1,i6 1]) (aUd _ _ _))<|xu (zX (vs:=[vb false,vb false,vb false,vb false,vb true,i6 1,i6 1]) H 0 Z mY Z Z Z ⟨Z,Z,Z,Z,Z,Z,Z,T1⟩ Z) λY H=>zA (vb true)<|RM ?_) λa=>?_;cases a;exact zI<|zK<|zF<|dH (v1:=vb true) Z Z (yA vS mY Z (Hbc H 0 Z)) Z ⟨Z,H.U []⟩;refine SR<|fD a λE a=>zA (vb E)<|RM<|WJ a ?_ ?_<;>intro a
 refine SR<|zM (yO (cs:=[vb false,vb false,vb false,vb true,vb true,i6 1,i6 1]) (aOm _ _ _ _))<|xu (zX (vs:=[vb false,vb false,vb false,vb true,vb true,i6 1,i6 1]) H 0 Z mY Z Z Z ⟨Z,Z,Z,Z,Z,Z,Z,T1⟩ Z) λ_ H=>zA (vb true)<|RM ?_;cases a;exact zI<|zK<|zF<|dH (v1:=vb true) Z Z (yA vS mY Z (Hbc H 0 Z)) Z ⟨Z,H.U []⟩;refine SR<|fD a λF a=>zA (vb F)<|RM<|WJ a (λa=>SR<|zM (yO (cs:=[vb false,vb false,vb false,vb false,vb false,i6 2,i6 2]) (aHg _ _))<|xu (zX (vs:=[vb false,vb false,vb false,vb false,vb false,i6 2,i6 2]) H 0 Z mY Z Z Z ⟨Z,Z,Z,Z,Z,Z,Z,T1⟩ Z) λ_ H=>zA (vb true)<|RM ?_) λa=>?_;cases a;exact zI<|zK<|zF<|dH (v1:=vb true) Z Z (yA vS mY Z (Hbc H 0 Z)) Z ⟨Z,H.U []⟩;refine yK<|zQ<|zH<|KN<|SR<|zM (yO (cs:=[vb false,vb false,vb false,vb false,vb false,i6 0,i6 0]) bz169)<|xu (zX (vs:=[vb false,vb false,vb false,vb false,vb false,i6 0,i6 0]) H 0 Z mY Z Z Z ⟨Z,Z,Z,Z,Z,Z,Z,T1⟩ Z) λ_ H=>zA (vb false)<|RM ?_;cases a;exact zI<|dH (v1:=vb false) Z Z (yA vS mY Z (Hbc H 0 Z)) Z ⟨Z,H.U []⟩
end Go.Proofs.YtibkjjklfhfipaaGreat.L
