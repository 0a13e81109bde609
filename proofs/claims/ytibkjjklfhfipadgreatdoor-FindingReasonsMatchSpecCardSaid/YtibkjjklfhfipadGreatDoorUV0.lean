/- Walks that the claim stands on; no condition beyond those stated. -/
import Derived.Test.YtibkjjklfhfipadGreatDoorUP
import Derived.Test.YtibkjjklfhfipadGreatDoorXVq
import Derived.Test.YtibkjjklfhfipadGreatDoorXVr
namespace Go.Proofs.YtibkjjklfhfipadGreatDoor.L
open Go.RowKit Go.OB Go.Lf
set_option maxRecDepth 100000
set_option maxHeartbeats 4000000
abbrev vb:=Value.bool
theorem T1:True:=trivial
abbrev cE (c:Cond):Cond:=Cond.mk c.Kind c.Name c.Other c.Op c.N c.Frames c.Kids
theorem Z {α:Sort _}{a:α}:a=a:=rfl
variable {O S:List Nat}{w:World}
abbrev En (f:FuncId):Prop:=Go.OB.Enters Tryz.prog f
theorem CW {P:Program}{f:FuncId}{fn:Func}{c:Code}{args:List Value}{w:World}{R:Ending->World->Prop}(N:Nat)(hf:P.funcs[f]? =some fn)(h:WP P N c (wI P fn.results R) (aNw args) w)(hb:fn.body=some c:=by exact rfl)(hN:fn.ntmps=N:=by exact rfl)(hl:Nat.ble args.length N=true:=by exact rfl):Calls P f args.toArray w R:=tK N hf hb hN hl h
theorem mt {W:List Nat}{ρ ρ':Env}{G:Type}{S:G->List (Nat×Value)}{B:G->Prop}(g:G)(h:B g)(hs:Sl ρ' (S g):=by repeat (first |exact yU|refine yE rfl ?_))(hf:Fr W ρ ρ':=by repeat' (first |with_reducible exact aFp|refine aSi rfl ?_|refine aJs rfl rfl ?_)):Fr W ρ ρ'/\ ∃g,Sl ρ' (S g)/\B g:=⟨hf,g,hs,h⟩
theorem ml {W:List Nat}{ρ ρ':Env}{G:Type}{S:G->List (Nat×Value)}{B C:G->Prop}{μ:G->Nat}{n:Nat}(g:G)(h:B g)(c:C g)(hs:Sl ρ' (S g):=by repeat (first |exact yU|refine yE rfl ?_))(hn:μ g<n:=by exact Nat.lt_succ_self _)(hf:Fr W ρ ρ':=by repeat' (first |with_reducible exact aFp|refine aSi rfl ?_|refine aJs rfl rfl ?_)):Fr W ρ ρ'/\ ∃g,Sl ρ' (S g)/\(B g/\C g)/\μ g<n:=⟨hf,g,hs,⟨h,c⟩,hn⟩
def rg:List Nat->List Nat
 |a::n::l=>List.range' a n++rg l
 |_=>[]
section
variable {P:Program}{N:Nat}{ops:Array Oper}{Q Q':Exit->Env->World->Prop}{rest:List Oper}{ρ:Env}{w:World}{d:Nat}{op:Op}{ty:TypeId}{pos:String}{af:Array Edge}{gd:Option (Nat×Bool)}
theorem RLb {β:Type}{b:Bool}{k:Bool->Option β}{r:β}(a:gJ b k=some r)(hd:Do P ⟨some d,op,ty,pos,af,gd⟩ ρ w (vb b) w)(n: ∀x,k x=some r->RL P N ops Q rest (upd ρ d (vb x)) w)(hw:fV N ops ρ ⟨some d,op,ty,pos,af,gd⟩=true:=by exact rfl)(c:Nat.blt d N=true:=by exact rfl):RL P N ops Q (⟨some d,op,ty,pos,af,gd⟩::rest) ρ w:=aI hw c hd (n b a)
theorem RLi {β:Type}{b:Int}{kk:IntKind}{k:Int->Option β}{r:β}(a:gJ b k=some r)(hd:Do P ⟨some d,op,ty,pos,af,gd⟩ ρ w (.int kk b) w)(n: ∀x,k x=some r->RL P N ops Q rest (upd ρ d (.int kk x)) w)(hw:fV N ops ρ ⟨some d,op,ty,pos,af,gd⟩=true:=by exact rfl)(c:Nat.blt d N=true:=by exact rfl):RL P N ops Q (⟨some d,op,ty,pos,af,gd⟩::rest) ρ w:=aI hw c hd (n b a)
theorem WI {β:Type}{b:Bool}{x y:Option β}{r:β}{c:Operand}{s t:Code}(a:gK b x y=some r)(hc:ev ρ c=vb b)(ht:x=some r->WP P N s Q ρ w)(hf:y=some r->WP P N t Q ρ w):WP P N (.cond c s t) Q ρ w:=aTc hc (λc=>ht (wO c a)) (λc=>hf (wS c a))
theorem RI {β:Type}{b:Bool}{x y:Option β}{r:β}{z:Operand}(a:gK b x y=some r)(hx:ev ρ z=vb b)(ht:x=some r->RL P N ops Q rest (upd ρ d (vb true)) w)(hf:y=some r->RL P N ops Q rest (upd ρ d (vb false)) w)(hw:fV N ops ρ ⟨some d,.move z,ty,pos,af,gd⟩=true:=by exact rfl)(e:Nat.blt d N=true:=by exact rfl):RL P N ops Q (⟨some d,.move z,ty,pos,af,gd⟩::rest) ρ w:=RL_splitb hw e hx (λc=>ht (wO c a)) (λc=>hf (wS c a))
theorem RC {f:FuncId}{args:Array Operand}{at_:Array TypeId}{vs:List Value}{v:Value}{O c S:List Nat}{b:World}{l:List Th}(he:Go.OB.Enters P f)(hc:Calls P f vs.toArray w λe a=>e= .returned v/\Hd c w a [] [])(H:Hd O b w S l)(k: ∀a,Hd O b a S l->RL P N ops Q rest (upd ρ d v) a)(ha:args.toList.map (ev ρ)=vs:=by exact rfl)(hw:fV N ops ρ ⟨some d,.call {callee:= .value (.func f),args:=args,argTypes:=at_},ty,pos,af,gd⟩=true:=by exact rfl)(h:Nat.blt d N=true:=by exact rfl):RL P N ops Q (⟨some d,.call {callee:= .value (.func f),args:=args,argTypes:=at_},ty,pos,af,gd⟩::rest) ρ w:=by
 refine xC hw h (yG he ha) hc ?_;rintro _ a ⟨rfl,G⟩;exact⟨_,rfl,k _ (H.step G.only)⟩
end
section
variable {P:Program}{N:Nat}{ops:Array Oper}{Q Q':Exit->Env->World->Prop}{rest:List Oper}{ρ:Env}{w:World}{d:Nat}{t u ty:TypeId}{x y:Operand}{pos:String}{af:Array Edge}{g:Option (Nat×Bool)}
def KK (P:Program)(N:Nat)(y:Code)(Q:Exit->Env->World->Prop):Env->World->Prop:=WP P N y Q
theorem SQ {x y:Code}(h:WP P N x (pX (KK P N y Q) Q) ρ w):WP P N (.seq x y) Q ρ w:=bAn h λ_ _ h=>h
theorem SR {id:Nat}{l:List Oper}{y:Code}(h:RL P N l.toArray (pX (KK P N y Q) Q) l ρ w):WP P N (.seq (.region id l.toArray false) y) Q ρ w:=SQ (zD h)
theorem RM {y:Code}(n:WP P N y Q ρ w):RL P N ops (pX (KK P N y Q) Q') [] ρ w:=yN (zF n)
theorem WZ {y:Code}(n:WP P N y Q ρ w):WP P N .skip (pX (KK P N y Q) Q') ρ w:=yJ (zF n)
theorem KN {y:Code}(n:WP P N y Q ρ w):KK P N y Q ρ w:=n
theorem jn {K:Env->World->Prop}(n:K ρ w):RL P N ops (pX K Q') [] ρ w:=yN (zF n)
theorem js {K:Env->World->Prop}(n:K ρ w):WP P N .skip (pX K Q') ρ w:=yJ (zF n)
theorem eF {a b:Int}{kk:IntKind}{β:Type}{k:Bool->Option β}{r:β}(c:gJ (decide (a<b)) k=some r)(n: ∀x,k x=some r->RL P N ops Q rest (upd ρ d (vb x)) w)(hx:ev ρ x= .int kk a:=by exact rfl)(hy:ev ρ y= .int kk b:=by exact rfl)(hw:fV N ops ρ ⟨some d,.binOp .lss t x y u,ty,pos,af,g⟩=true:=by exact rfl)(e:Nat.blt d N=true:=by exact rfl):RL P N ops Q (⟨some d,.binOp .lss t x y u,ty,pos,af,g⟩::rest) ρ w:=RLb c (aQr hx hy) n hw e
theorem aCk {a b:Int}{kk:IntKind}{β:Type}{k:Bool->Option β}{r:β}(c:gJ (decide (a<=b)) k=some r)(n: ∀x,k x=some r->RL P N ops Q rest (upd ρ d (vb x)) w)(hx:ev ρ x= .int kk a:=by exact rfl)(hy:ev ρ y= .int kk b:=by exact rfl)(hw:fV N ops ρ ⟨some d,.binOp .leq t x y u,ty,pos,af,g⟩=true:=by exact rfl)(e:Nat.blt d N=true:=by exact rfl):RL P N ops Q (⟨some d,.binOp .leq t x y u,ty,pos,af,g⟩::rest) ρ w:=RLb c (aSg hx hy) n hw e
theorem jQ {a b:Int}{kk:IntKind}{β:Type}{k:Bool->Option β}{r:β}(c:gJ (decide (b<a)) k=some r)(n: ∀x,k x=some r->RL P N ops Q rest (upd ρ d (vb x)) w)(hx:ev ρ x= .int kk a:=by exact rfl)(hy:ev ρ y= .int kk b:=by exact rfl)(hw:fV N ops ρ ⟨some d,.binOp .gtr t x y u,ty,pos,af,g⟩=true:=by exact rfl)(e:Nat.blt d N=true:=by exact rfl):RL P N ops Q (⟨some d,.binOp .gtr t x y u,ty,pos,af,g⟩::rest) ρ w:=RLb c (vM hx hy) n hw e
theorem vZ {a b:Int}{kk:IntKind}{β:Type}{k:Bool->Option β}{r:β}(c:gJ (decide (b<=a)) k=some r)(n: ∀x,k x=some r->RL P N ops Q rest (upd ρ d (vb x)) w)(hx:ev ρ x= .int kk a:=by exact rfl)(hy:ev ρ y= .int kk b:=by exact rfl)(hw:fV N ops ρ ⟨some d,.binOp .geq t x y u,ty,pos,af,g⟩=true:=by exact rfl)(e:Nat.blt d N=true:=by exact rfl):RL P N ops Q (⟨some d,.binOp .geq t x y u,ty,pos,af,g⟩::rest) ρ w:=RLb c (aHg hx hy) n hw e
theorem fH {a b:Int}{kk:IntKind}{β:Type}{k:Bool->Option β}{r:β}(c:gJ (decide (a=b)) k=some r)(n: ∀x,k x=some r->RL P N ops Q rest (upd ρ d (vb x)) w)(hx:ev ρ x= .int kk a:=by exact rfl)(hy:ev ρ y= .int kk b:=by exact rfl)(hw:fV N ops ρ ⟨some d,.binOp .eql t x y u,ty,pos,af,g⟩=true:=by exact rfl)(e:Nat.blt d N=true:=by exact rfl):RL P N ops Q (⟨some d,.binOp .eql t x y u,ty,pos,af,g⟩::rest) ρ w:=RLb c (aGr hx hy) n hw e
theorem kD {a b:Int}{kk:IntKind}{β:Type}{k:Bool->Option β}{r:β}(c:gJ (decide (a≠b)) k=some r)(n: ∀x,k x=some r->RL P N ops Q rest (upd ρ d (vb x)) w)(hx:ev ρ x= .int kk a:=by exact rfl)(hy:ev ρ y= .int kk b:=by exact rfl)(hw:fV N ops ρ ⟨some d,.binOp .neq t x y u,ty,pos,af,g⟩=true:=by exact rfl)(e:Nat.blt d N=true:=by exact rfl):RL P N ops Q (⟨some d,.binOp .neq t x y u,ty,pos,af,g⟩::rest) ρ w:=RLb c (Do_neq hx hy) n hw e
theorem eG {a b:Int}{kk:IntKind}{β:Type}{k:Int->Option β}{r:β}(c:gJ (kk.wrap (a+b)) k=some r)(n: ∀x,k x=some r->RL P N ops Q rest (upd ρ d (.int kk x)) w)(hx:ev ρ x= .int kk a:=by exact rfl)(hy:ev ρ y= .int kk b:=by exact rfl)(hw:fV N ops ρ ⟨some d,.binOp .add t x y u,ty,pos,af,g⟩=true:=by exact rfl)(e:Nat.blt d N=true:=by exact rfl):RL P N ops Q (⟨some d,.binOp .add t x y u,ty,pos,af,g⟩::rest) ρ w:=RLi c (wP hx hy rfl) n hw e
theorem vX {a b:Int}{kk:IntKind}{β:Type}{k:Int->Option β}{r:β}(c:gJ (kk.wrap (a-b)) k=some r)(n: ∀x,k x=some r->RL P N ops Q rest (upd ρ d (.int kk x)) w)(hx:ev ρ x= .int kk a:=by exact rfl)(hy:ev ρ y= .int kk b:=by exact rfl)(hw:fV N ops ρ ⟨some d,.binOp .sub t x y u,ty,pos,af,g⟩=true:=by exact rfl)(e:Nat.blt d N=true:=by exact rfl):RL P N ops Q (⟨some d,.binOp .sub t x y u,ty,pos,af,g⟩::rest) ρ w:=RLi c (jZ hx hy rfl) n hw e
theorem aQk {a b:Int}{kk:IntKind}{β:Type}{k:Int->Option β}{r:β}(c:gJ (kk.wrap (a*b)) k=some r)(n: ∀x,k x=some r->RL P N ops Q rest (upd ρ d (.int kk x)) w)(hx:ev ρ x= .int kk a:=by exact rfl)(hy:ev ρ y= .int kk b:=by exact rfl)(hw:fV N ops ρ ⟨some d,.binOp .mul t x y u,ty,pos,af,g⟩=true:=by exact rfl)(e:Nat.blt d N=true:=by exact rfl):RL P N ops Q (⟨some d,.binOp .mul t x y u,ty,pos,af,g⟩::rest) ρ w:=RLi c (bAf hx hy rfl) n hw e
theorem sJ {x y:Code}{O S:List Nat}{a b:World}{T:List Th}(_:Hd O a b S T)(W:List Nat)(l:List (Nat×Value))(h:WP P N x (pX (λρ' c=>Fr W ρ ρ'/\ ∃g:Unit,Sl ρ' ((λ_=>l) g)/\(λ_ wl=>Hd O a wl S T) g c) Q) ρ w)(k: ∀(_:Unit) ρ₁ w,Hd O a w S T->WP P N y Q (over ρ ρ₁ W l) w):WP P N (.seq x y) Q ρ w:=aRs W (λ_:Unit=>l) (λ_ wl=>Hd O a wl S T) h k
theorem bE {α β:Type}{p:Prop}{x:Option α}{f:α->Option β}{r:β}(h:gB x f=some r)(k: ∀y,x=some y->f y=some r->p):p:=(zZ h).elim λy q=>k y q.1 q.2
theorem lE {α β:Type}{p:Prop}{x:α}{f:α->Option β}{r:β}(h:gJ x f=some r)(k: ∀y,x=y->f y=some r->p):p:=(aCy h).elim λy q=>k y q.1 q.2
theorem XQ {I:World->Prop}{κ:List MxM.Kd}{K:MxM.Mm->Env->World->Prop}{k:Nat}{M:MxM.Mm}{σ:List Nat}{v:Value}{op:Op}(h: ∀{a},Do P ⟨some d,op,ty,pos,af,g⟩ ρ a v a)(n:MxM.XL P I N ops κ K M σ rest (upd ρ d v) w)(hk:MxM.kdOf κ k= .pure:=by exact rfl)(hw:fV N ops ρ ⟨some d,op,ty,pos,af,g⟩=true:=by exact rfl)(b:Nat.blt d N=true:=by exact rfl):MxM.XL P I N ops κ K M (k::σ) (⟨some d,op,ty,pos,af,g⟩::rest) ρ w:=MxM.XL_pure hk hw b (λ_ _=>h) n
theorem bM {b:Bool}{β:Type}{k:Bool->Option β}{r:β}(a:gJ (!b) k=some r)(n: ∀x,k x=some r->RL P N ops Q rest (upd ρ d (vb x)) w)(hx:ev ρ x=vb b:=by exact rfl)(hw:fV N ops ρ ⟨some d,.unOp .not t x,ty,pos,af,g⟩=true:=by exact rfl)(c:Nat.blt d N=true:=by exact rfl):RL P N ops Q (⟨some d,.unOp .not t x,ty,pos,af,g⟩::rest) ρ w:=RLb a (aEm hx) n hw c
theorem pt (v:Value){z:Operand}(n:RL P N ops Q rest (upd ρ d v) w)(hx:ev ρ x=vb true:=by exact rfl)(hy:ev ρ y=v:=by exact rfl)(hw:fV N ops ρ ⟨some d,.pick x y z,ty,pos,af,g⟩=true:=by exact rfl)(a:Nat.blt d N=true:=by exact rfl):RL P N ops Q (⟨some d,.pick x y z,ty,pos,af,g⟩::rest) ρ w:=aI hw a (qQ hx hy) n
theorem pf (v:Value){z:Operand}(n:RL P N ops Q rest (upd ρ d v) w)(hx:ev ρ x=vb false:=by exact rfl)(hz:ev ρ z=v:=by exact rfl)(hw:fV N ops ρ ⟨some d,.pick x y z,ty,pos,af,g⟩=true:=by exact rfl)(a:Nat.blt d N=true:=by exact rfl):RL P N ops Q (⟨some d,.pick x y z,ty,pos,af,g⟩::rest) ρ w:=aI hw a (qP hx hz) n
theorem ix {α:Type}{L:List α}{i:Int}{z:α}{e:TypeId}{b o s c:Nat}{kk:IntKind}(hu:P.underlying t=some (.slice e))(hs:Sz P e s)(hx:ev ρ x= .slice (some ⟨b,o,none⟩) L.length c)(h:at' L i=some z)(n:RL P N ops Q rest (upd ρ d (.pointer (some ⟨b,o+i.toNat*s,none⟩))) w)(hy:ev ρ y= .int kk i:=by exact rfl)(hw:fV N ops ρ ⟨some d,.indexAddr t x y,ty,pos,af,g⟩=true:=by exact rfl)(a:Nat.blt d N=true:=by exact rfl):RL P N ops Q (⟨some d,.indexAddr t x y,ty,pos,af,g⟩::rest) ρ w:=aI hw a (xA hu hs hx hy (zV h).1 (zV h).2.1 rfl rfl) n
theorem lb {O S:List Nat}{a:World}{l:List Th}{b T n:Nat}{cs:List Value}(H:Hd O a w S l)(i:Nat)(h:l[i]? =some (.blk b cs T))(c:Agg P t)(hs:Sz P t n)(k:RL P N ops Q rest (upd ρ d (.agg cs.toArray)) w)(hx:ev ρ x= .pointer (some ⟨b,0,none⟩):=by exact rfl)(hl:cs.length=n:=by exact rfl)(hw:fV N ops ρ ⟨some d,.load t x,ty,pos,af,g⟩=true:=by exact rfl)(e:Nat.blt d N=true:=by exact rfl):RL P N ops Q (⟨some d,.load t x,ty,pos,af,g⟩::rest) ρ w:=aI hw e (zX c hx hs hl (Blk.cells (H.V h))) k
theorem WJ {β:Type}{b:Bool}{x y:Option β}{r:β}{c:Operand}{s t:Code}(a:gK b x y=some r)(ht:x=some r->WP P N s Q ρ w)(hf:y=some r->WP P N t Q ρ w)(hc:ev ρ c=vb b:=by exact rfl):WP P N (.cond c s t) Q ρ w:=WI a hc ht hf
theorem RJ {β:Type}{b:Bool}{x y:Option β}{r:β}{z:Operand}(a:gK b x y=some r)(ht:x=some r->RL P N ops Q rest (upd ρ d (vb true)) w)(hf:y=some r->RL P N ops Q rest (upd ρ d (vb false)) w)(hx:ev ρ z=vb b:=by exact rfl)(hw:fV N ops ρ ⟨some d,.move z,ty,pos,af,g⟩=true:=by exact rfl)(c:Nat.blt d N=true:=by exact rfl):RL P N ops Q (⟨some d,.move z,ty,pos,af,g⟩::rest) ρ w:=RI a hx ht hf hw c
end
abbrev Sm {O S:List Nat}{v w:World}{l:List Th}(_:Hd O v w S l)(w':World)(l':List Th):Prop:=Hd O v w' S l'
section
variable {P:Program}{N:Nat}{Q:Exit->Env->World->Prop}{ρ:Env}{w wo:World}{O S:List Nat}{T:List Th}{X Y β:Type}{r:β}{c x y:Code}
abbrev pj (J:List Nat)(t T:List Th):=Go.Lf.pick J (t++T)
theorem jo (_:Hd O wo w S T)(W:List Nat)(l:Y->List (Nat×Value))(t:Y->List Th)(J:List Nat)(h:WP P N x (pX (λρ' a=>Fr W ρ ρ'/\ ∃z:Y,Sl ρ' (l z)/\Hd O wo a S (pj J (t z) T)) Q) ρ w)(k: ∀z ρ₁ w,Hd O wo w S (pj J (t z) T)->WP P N y Q (over ρ ρ₁ W (l z)) w):WP P N (.seq x y) Q ρ w:=aRs W l (λz wl=>Hd O wo wl S (pj J (t z) T)) h k
theorem jk {b:X->Option β}{m:(X->Option β)->Option β}(a:cO b m=some r)(_:Hd O wo w S T)(W:List Nat)(l:X->Y->List (Nat×Value))(t:X->Y->List Th)(J:List Nat)(h: ∀k:X->Option β,m k=some r->WP P N x (pX (λρ' c=>Fr W ρ ρ'/\ ∃u v,Sl ρ' (l u v)/\Hd O wo c S (pj J (t u v) T)/\k u=some r) Q) ρ w)(k: ∀u v ρ₁ w,Hd O wo w S (pj J (t u v) T)->b u=some r->WP P N y Q (over ρ ρ₁ W (l u v)) w):WP P N (.seq x y) Q ρ w:=by
 refine aRs (G:=X×Y) W (λg=>l g.1 g.2) (λg wl=>Hd O wo wl S (pj J (t g.1 g.2) T)/\b g.1=some r) ((h b a).mono ?_) (λg ρ₁ w hg=>k g.1 g.2 ρ₁ w hg.1 hg.2);intro e ρ' c hq
 cases e<;>first |(obtain⟨d,u,v,f,i,j⟩:=hq;exact⟨d,(u,v),f,i,j⟩)|exact hq
theorem lo {b:(X->Option β)->X->Option β}{d:X}(a:fF b d=some r)(_:Hd O wo w S T)(W:List Nat)(l:X->Y->List (Nat×Value))(t:X->Y->List Th)(J:List Nat)(f:Y)(j:Hd O wo w S (pj J (t d f) T))(n: ∀k u v ρ₁ w,Hd O wo w S (pj J (t u v) T)->b k u=some r->WP P N c (pX (λρ' i=>Fr W ρ ρ'/\ ∃u v,Sl ρ' (l u v)/\Hd O wo i S (pj J (t u v) T)/\k u=some r) Q) (over ρ ρ₁ W (l u v)) w)(hs:Sl ρ (l d f):=by repeat (first |exact yU|refine yE rfl ?_)):WP P N (.loop c) Q ρ w:=by
 obtain⟨B,m,rfl,o⟩:=aYu a;refine WP_loopS (G:=Nat×X×Y) W (λg=>l g.2.1 g.2.2) (λg wl=>Hd O wo wl S (pj J (t g.2.1 g.2.2) T)/\dL B g.1 g.2.1=some r) (λg=>g.1) (m,d,f) hs ⟨j,o⟩ ?_;rintro⟨m,u,v⟩ ρ₁ w ⟨p,h⟩;obtain⟨m,rfl,h⟩:=loopN_pos h;refine(n (dL B m) u v ρ₁ w p h).mono ?_;intro e ρ' i hq
 cases e<;>first |(obtain⟨q,u',v',s,x,y⟩:=hq;exact⟨q,(m,u',v'),s,⟨x,y⟩,Nat.lt_succ_self _⟩)|exact hq
theorem me {W:List Nat}{ρ ρ':Env}{k:X->Option β}{l:X->Y->List (Nat×Value)}{B:X->Y->Prop}{u:X}(a:k u=some r)(y:Y)(h:B u y)(hs:Sl ρ' (l u y):=by repeat (first |exact yU|refine yE rfl ?_))(hf:Fr W ρ ρ':=by repeat' (first |with_reducible exact aFp|refine aSi rfl ?_|refine aJs rfl rfl ?_)):Fr W ρ ρ'/\ ∃u v,Sl ρ' (l u v)/\B u v/\k u=some r:=⟨hf,u,y,hs,h,a⟩
end
section
variable {P:Program}{N:Nat}{ops:Array Oper}{Q:Exit->Env->World->Prop}{rest:List Oper}{ρ:Env}{w wo:World}{d dd:Nat}{op:Op}{t e tt uu ty tyy:TypeId}{x y xx:Operand}{pos poo:String}{af aff:Array Edge}{g gg:Option (Nat×Bool)}{f:FuncId}{args:Array Operand}{at_:Array TypeId}{vs:List Value}{O S:List Nat}{l:List Th}{α β A B C D:Type}{r:β}{v:Value}
theorem xu {R:World->Prop}(h: ∃a,DoU P ⟨none,op,ty,pos,af,g⟩ ρ w a/\R a)(k: ∀a,R a->RL P N ops Q rest ρ a)(hw:fV N ops ρ ⟨none,op,ty,pos,af,g⟩=true:=by exact rfl):RL P N ops Q (⟨none,op,ty,pos,af,g⟩::rest) ρ w:=RL_exU hw h k
theorem xv {R:Value->World->Prop}(h: ∃v a,Do P ⟨some d,op,ty,pos,af,g⟩ ρ w v a/\R v a)(k: ∀v a,R v a->RL P N ops Q rest (upd ρ d v) a)(hw:fV N ops ρ ⟨some d,op,ty,pos,af,g⟩=true:=by exact rfl)(hd:Nat.blt d N=true:=by exact rfl):RL P N ops Q (⟨some d,op,ty,pos,af,g⟩::rest) ρ w:=aBk hw hd h k
theorem xb {R:Nat->World->Prop}(h: ∃v a,Do P ⟨some d,op,ty,pos,af,g⟩ ρ w v a/\ ∃b,v= .pointer (some ⟨b,0,none⟩)/\R b a)(k: ∀b a,R b a->RL P N ops Q rest (upd ρ d (.pointer (some ⟨b,0,none⟩))) a)(hw:fV N ops ρ ⟨some d,op,ty,pos,af,g⟩=true:=by exact rfl)(hd:Nat.blt d N=true:=by exact rfl):RL P N ops Q (⟨some d,op,ty,pos,af,g⟩::rest) ρ w:=aBk hw hd h λ_ _ ⟨b,e,q⟩=>e▸k b _ q
theorem ln {L:List α}{rr:Rp α}{F:Nat->Prop}{k:Int->Option β}{b:World}(f:gJ (L.length:Int) k=some r)(h:SlF rr F b v L)(hu:P.underlying t=some (.slice e))(n: ∀x,k x=some r->RL P N ops Q rest (upd ρ d (.int .i64 x)) w)(hx:ev ρ x=v:=by exact rfl)(hw:fV N ops ρ ⟨some d,.call {callee:= .builtin .len,args:= #[x],argTypes:= #[t]},ty,pos,af,g⟩=true:=by exact rfl)(i:Nat.blt d N=true:=by exact rfl):RL P N ops Q (⟨some d,.call {callee:= .builtin .len,args:= #[x],argTypes:= #[t]},ty,pos,af,g⟩::rest) ρ w:=by
 obtain⟨a,c,q⟩:=SlF.len h;exact aI hw i (kL hu (hx.trans q)) (n _ f)
theorem lr {L:List α}{R:Go.Lf.Rt α}{D:Hol}{bs:List Nat}{F:Nat->Prop}{k:Int->Option β}{b:World}(f:gJ (L.length:Int) k=some r)(h:(Rt.row R uu D).rd F b [v] bs L)(hu:P.underlying t=some (.slice e))(n: ∀x,k x=some r->RL P N ops Q rest (upd ρ d (.int .i64 x)) w)(hx:ev ρ x=v:=by exact rfl)(hw:fV N ops ρ ⟨some d,.call {callee:= .builtin .len,args:= #[x],argTypes:= #[t]},ty,pos,af,g⟩=true:=by exact rfl)(i:Nat.blt d N=true:=by exact rfl):RL P N ops Q (⟨some d,.call {callee:= .builtin .len,args:= #[x],argTypes:= #[t]},ty,pos,af,g⟩::rest) ρ w:=by
 obtain⟨a,c,q⟩:=mV h;exact aI hw i (kL hu (hx.trans q)) (n _ f)
theorem rea {L:List α}{a:α}{rr:Rp α}{j:Int}{kk:IntKind}(H:Hd O wo w S l)(k:SlF rr (frees O l) w v L)(z:Value)(h:at' L j=some a)(hu:P.underlying t=some (.slice e))(hs:Sz P e 1)(p:aCm P tt)(n: ∀b o,Hd O wo w S (l++[.fz (.at b (o+j.toNat*1) [z])])->RL P N ops Q rest (upd (upd ρ d (.pointer (some ⟨b,o+j.toNat*1,none⟩))) dd z) w)(hc: ∀F w cs,rr.rd F w cs a->cs=[z]:=by exact λ_ _ _ h=>h)(r:rr.sz=1:=by exact rfl)(hx:ev ρ x=v:=by exact rfl)(hy:ev ρ y= .int kk j:=by exact rfl)(s: ∀q,ev (upd ρ d q) xx=q:=by exact λ_=>rfl)(hw:fV N ops ρ ⟨some d,.indexAddr t x y,ty,pos,af,g⟩=true:=by exact rfl)(hd:Nat.blt d N=true:=by exact rfl)(hv: ∀q,fV N ops (upd ρ d q) ⟨some dd,.load tt xx,tyy,poo,aff,gg⟩=true:=by exact λ_=>rfl)(u:Nat.blt dd N=true:=by exact rfl):RL P N ops Q (⟨some d,.indexAddr t x y,ty,pos,af,g⟩::⟨some dd,.load tt xx,tyy,poo,aff,gg⟩::rest) ρ w:=by
 obtain⟨b,o,c,cs,q,A,B,C,f⟩:=xB k h;obtain rfl:=hc _ _ _ A;rw [r]at f;refine aI hw hd (xA hu hs (hx.trans q) hy (zV h).1 (zV h).2.1 rfl rfl) (aI (hv _) u (yD p (s _) (Cells.get f (i:=0) rfl)) ?_);exact n b o (H.fz (.at b (o+j.toNat*1) [z]) ⟨B,C,f⟩)
theorem cAz {V:Value}{R:World->Prop}(he:Go.OB.Enters P f)(hc:Calls P f vs.toArray w λe a=>e= .returned V/\R a)(n: ∀a,R a->RL P N ops Q rest (upd ρ d V) a)(ha:args.toList.map (ev ρ)=vs:=by exact rfl)(hw:fV N ops ρ ⟨some d,.call {callee:= .value (.func f),args:=args,argTypes:=at_},ty,pos,af,g⟩=true:=by exact rfl)(b:Nat.blt d N=true:=by exact rfl):RL P N ops Q (⟨some d,.call {callee:= .value (.func f),args:=args,argTypes:=at_},ty,pos,af,g⟩::rest) ρ w:=xC hw b (yG he ha) hc λ_ _ ⟨e,q⟩=>⟨_,e,n _ q⟩
theorem cAa {V:A->Value}{R:A->World->Prop}(he:Go.OB.Enters P f)(hc:Calls P f vs.toArray w λe b=> ∃a,e= .returned (V a)/\R a b)(n: ∀a b,R a b->RL P N ops Q rest (upd ρ d (V a)) b)(ha:args.toList.map (ev ρ)=vs:=by exact rfl)(hw:fV N ops ρ ⟨some d,.call {callee:= .value (.func f),args:=args,argTypes:=at_},ty,pos,af,g⟩=true:=by exact rfl)(c:Nat.blt d N=true:=by exact rfl):RL P N ops Q (⟨some d,.call {callee:= .value (.func f),args:=args,argTypes:=at_},ty,pos,af,g⟩::rest) ρ w:=xC hw c (yG he ha) hc λ_ _ ⟨a,e,q⟩=>⟨_,e,n a _ q⟩
theorem cAb {V:A->B->Value}{R:A->B->World->Prop}(he:Go.OB.Enters P f)(hc:Calls P f vs.toArray w λe c=> ∃a b,e= .returned (V a b)/\R a b c)(n: ∀a b c,R a b c->RL P N ops Q rest (upd ρ d (V a b)) c)(ha:args.toList.map (ev ρ)=vs:=by exact rfl)(hw:fV N ops ρ ⟨some d,.call {callee:= .value (.func f),args:=args,argTypes:=at_},ty,pos,af,g⟩=true:=by exact rfl)(h:Nat.blt d N=true:=by exact rfl):RL P N ops Q (⟨some d,.call {callee:= .value (.func f),args:=args,argTypes:=at_},ty,pos,af,g⟩::rest) ρ w:=xC hw h (yG he ha) hc λ_ _ ⟨a,b,e,q⟩=>⟨_,e,n a b _ q⟩
theorem cAc {V:A->B->C->Value}{R:A->B->C->World->Prop}(he:Go.OB.Enters P f)(hc:Calls P f vs.toArray w λe h=> ∃a b c,e= .returned (V a b c)/\R a b c h)(n: ∀a b c h,R a b c h->RL P N ops Q rest (upd ρ d (V a b c)) h)(ha:args.toList.map (ev ρ)=vs:=by exact rfl)(hw:fV N ops ρ ⟨some d,.call {callee:= .value (.func f),args:=args,argTypes:=at_},ty,pos,af,g⟩=true:=by exact rfl)(i:Nat.blt d N=true:=by exact rfl):RL P N ops Q (⟨some d,.call {callee:= .value (.func f),args:=args,argTypes:=at_},ty,pos,af,g⟩::rest) ρ w:=xC hw i (yG he ha) hc λ_ _ ⟨a,b,c,e,q⟩=>⟨_,e,n a b c _ q⟩
theorem cAd {V:A->B->C->D->Value}{R:A->B->C->D->World->Prop}(he:Go.OB.Enters P f)(hc:Calls P f vs.toArray w λe h=> ∃a b c z,e= .returned (V a b c z)/\R a b c z h)(n: ∀a b c z h,R a b c z h->RL P N ops Q rest (upd ρ d (V a b c z)) h)(ha:args.toList.map (ev ρ)=vs:=by exact rfl)(hw:fV N ops ρ ⟨some d,.call {callee:= .value (.func f),args:=args,argTypes:=at_},ty,pos,af,g⟩=true:=by exact rfl)(i:Nat.blt d N=true:=by exact rfl):RL P N ops Q (⟨some d,.call {callee:= .value (.func f),args:=args,argTypes:=at_},ty,pos,af,g⟩::rest) ρ w:=xC hw i (yG he ha) hc λ_ _ ⟨a,b,c,z,e,q⟩=>⟨_,e,n a b c z _ q⟩
abbrev KOne (rr:Rp α)(f:α->Value):Prop:=(∀F w c x,rr.rd F w c x↔c=[f x])/\rr.sz=1/\ ∀x,(f x).cells= #[f x]
theorem aYx:KOne Rp.str (λs=> .string (bs s)):=⟨λ_ _ _ _=>Iff.rfl,rfl,λ_=>rfl⟩
theorem aWn:KOne (Rp.int .i64) (.int .i64):=⟨λ_ _ _ _=>Iff.rfl,rfl,λ_=>rfl⟩
theorem kByt:KOne (Rp.int .u8) (.int .u8):=⟨λ_ _ _ _=>Iff.rfl,rfl,λ_=>rfl⟩
theorem ll {rr:Rp α}{f:α->Value}(k:KOne rr f){len bytes:Nat}{zs:List Value}{parts:Array (Nat×Operand)}(xl:List α)(hu:P.underlying t=some (.slice e))(he:El P e rr.sz bytes zs)(H:Hd O wo w S l)(hn:xl.length=len:=by exact rfl)(hp:Nat.blt 0 len=true:=by exact rfl)(hs:Nat.ble len 16777216=true:=by exact rfl)(hi:parts.toList.map Prod.fst=List.range len:=by exact rfl)(hv:parts.toList.map (λp=>ev ρ p.2)=xl.map f:=by exact rfl): ∃v b,Do P ⟨some d,.buildSlice t len parts,ty,pos,af,g⟩ ρ w v b/\fQ w b/\Hd O wo b S (l++[.own rr v e xl]):=by
 obtain⟨hl,a,hc⟩:=k;have j: ∀xl:List α,aUd 1 (xl.map f):=λxl=>by
  induction xl with
  |nil=>exact True.intro
  |cons x xl ih=>exact⟨by rw [hc];rfl,ih⟩
 have n: ∀xl:List α,rows rr (frees O l) w (xl.map f) xl:=λxl=>by
  induction xl with
  |nil=>rfl
  |cons x xl ih=>exact⟨[f x],_,rfl,(hl _ _ _ _).2 rfl,ih⟩
 have o:(xl.map f).flatMap (λv=>v.cells.toList)=xl.map f:=by
  clear hn hv
  induction xl with
  |nil=>rfl
  |cons x xl ih=>rw [List.map_cons,List.flatMap_cons,ih,hc];rfl
 have c:len*rr.sz<=16777216:=by rw [a,Nat.mul_one];exact Nat.le_of_ble_eq_true hs
 have h:0<len*rr.sz:=by rw [a,Nat.mul_one];exact Nat.le_of_ble_eq_true hp
 have i:uH rr.sz len zs (parts.toList.map λp=>(p.1,ev ρ p.2))=some (xl.map f):=xP (by rw [a];decide) hi hv (by rw [a];exact j xl) o;exact jW (bCw hu he c h hn i H (n xl)) (aAc hu he c h i)
theorem snd3 {R Y Z:Value->World->Prop}(h: ∃v c,R v c/\Y v c/\Z v c): ∃v c,R v c/\Z v c:=let ⟨v,c,a,_,b⟩:=h;⟨v,c,a,b⟩
theorem kl {rr:Rp α}{f:α->Value}(k:KOne rr f){len bytes:Nat}{zs:List Value}{parts:Array (Nat×Operand)}(xl:List α)(hu:P.underlying t=some (.slice e))(he:El P e rr.sz bytes zs)(H:Hd O wo w S l)(hn:xl.length=len:=by exact rfl)(hp:Nat.blt 0 len=true:=by exact rfl)(hs:Nat.ble len 16777216=true:=by exact rfl)(hi:parts.toList.map Prod.fst=List.range len:=by exact rfl)(hv:parts.toList.map (λp=>ev ρ p.2)=xl.map f:=by exact rfl): ∃v a,Do P ⟨some d,.buildSlice t len parts,ty,pos,af,g⟩ ρ w v a/\Hd O wo a S (l++[.own rr v e xl]):=snd3 (ll k xl hu he H hn hp hs hi hv)
theorem lOne (rr:Rp α)(x:α)(cs:List Value){bytes:Nat}{zs:List Value}{q:Operand}(hu:P.underlying t=some (.slice e))(he:El P e rr.sz bytes zs)(hr:rr.rd (frees O l) w cs x)(H:Hd O wo w S l)(a:cs.length=rr.sz:=by exact rfl)(c:Nat.blt 0 cs.length=true:=by exact rfl)(j:Nat.ble cs.length 16777216=true:=by exact rfl)(hv:ev ρ q= .agg cs.toArray:=by exact rfl): ∃v b,Do P ⟨some d,.buildSlice t 1 #[(0,q)],ty,pos,af,g⟩ ρ w v b/\fQ w b/\Hd O wo b S (l++[.own rr v e [x]]):=by
 have f:1*rr.sz<=16777216:=by rw [<-a,Nat.one_mul];exact Nat.le_of_ble_eq_true j
 have h:0<1*rr.sz:=by rw [<-a,Nat.one_mul];exact Nat.le_of_ble_eq_true c
 have i:uH rr.sz 1 zs ((#[(0,q)]:Array (Nat×Operand)).toList.map λp=>(p.1,ev ρ p.2))=some cs:=xP (vs:=[.agg cs.toArray]) (by rw [<-a];exact Nat.le_of_ble_eq_true c) rfl (by simp [hv]) ⟨by rw [<-a];simp [Value.cells],T1⟩ (by simp [Value.cells]);exact jW (bCw hu he f h rfl i H ⟨cs,[],by simp,hr,rfl⟩) (aAc hu he f h i)
theorem aSh (rr:Rp α)(x:α)(cs:List Value){bytes:Nat}{zs:List Value}{q:Operand}(hu:P.underlying t=some (.slice e))(he:El P e rr.sz bytes zs)(hr:rr.rd (frees O l) w cs x)(H:Hd O wo w S l)(b:cs.length=rr.sz:=by exact rfl)(c:Nat.blt 0 cs.length=true:=by exact rfl)(f:Nat.ble cs.length 16777216=true:=by exact rfl)(hv:ev ρ q= .agg cs.toArray:=by exact rfl): ∃v a,Do P ⟨some d,.buildSlice t 1 #[(0,q)],ty,pos,af,g⟩ ρ w v a/\Hd O wo a S (l++[.own rr v e [x]]):=snd3 (lOne rr x cs hu he hr H b c f hv)
theorem Xu {κ:List MxM.Kd}{K:MxM.Mm->Env->World->Prop}{k:Nat}{M:MxM.Mm}{σ Si:List Nat}{vo:World}{R:World->World->Prop}(h: ∀b,fQ w b-> ∃a,DoU P ⟨none,op,ty,pos,af,g⟩ ρ b a/\R b a)(n: ∀b a,fQ w b->R b a->MxM.XL P (λa=>Only Si vo a) N ops κ K none σ rest ρ a)(ho: ∀b a,R b a->Only Si vo a:=by exact λ_ _ h=>h.only)(hk:MxM.kdOf κ k= .eff:=by exact rfl)(hw:fV N ops ρ ⟨none,op,ty,pos,af,g⟩=true:=by exact rfl):MxM.XL P (λa=>Only Si vo a) N ops κ K M (k::σ) (⟨none,op,ty,pos,af,g⟩::rest) ρ w:=MxM.XL_exU oS hk hw h λ_ _ s q=>⟨ho _ _ q,n _ _ s q⟩
theorem Xe {κ:List MxM.Kd}{K:MxM.Mm->Env->World->Prop}{k:Nat}{M:MxM.Mm}{σ Si:List Nat}{vo:World}{R:World->Value->World->Prop}(h: ∀b,fQ w b-> ∃v a,Do P ⟨some d,op,ty,pos,af,g⟩ ρ b v a/\R b v a)(n: ∀b v a,fQ w b->R b v a->MxM.XL P (λa=>Only Si vo a) N ops κ K none σ rest (upd ρ d v) a)(ho: ∀b v a,R b v a->Only Si vo a:=by exact λ_ _ _ h=>h.only)(hk:MxM.kdOf κ k= .eff:=by exact rfl)(hw:fV N ops ρ ⟨some d,op,ty,pos,af,g⟩=true:=by exact rfl)(hd:Nat.blt d N=true:=by exact rfl):MxM.XL P (λa=>Only Si vo a) N ops κ K M (k::σ) (⟨some d,op,ty,pos,af,g⟩::rest) ρ w:=MxM.XL_ex oS hk hw hd h λ_ _ _ s q=>⟨ho _ _ _ q,n _ _ _ s q⟩
theorem Xf {κ:List MxM.Kd}{K:MxM.Mm->Env->World->Prop}{k:Nat}{M:MxM.Mm}{σ Si:List Nat}{vo:World}{R:World->Value->World->α->Prop}(h: ∀c,fQ w c-> ∃v b,Do P ⟨some d,op,ty,pos,af,g⟩ ρ c v b/\ ∃a,R c v b a)(n: ∀c v b,fQ w c-> ∀a,R c v b a->MxM.XL P (λb=>Only Si vo b) N ops κ K none σ rest (upd ρ d v) b)(ho: ∀c v b a,R c v b a->Only Si vo b:=by exact λ_ _ _ _ h=>h.only)(hk:MxM.kdOf κ k= .eff:=by exact rfl)(hw:fV N ops ρ ⟨some d,op,ty,pos,af,g⟩=true:=by exact rfl)(hd:Nat.blt d N=true:=by exact rfl):MxM.XL P (λb=>Only Si vo b) N ops κ K M (k::σ) (⟨some d,op,ty,pos,af,g⟩::rest) ρ w:=MxM.XL_ex oS hk hw hd h λ_ _ _ s ⟨_,q⟩=>⟨ho _ _ _ _ q,n _ _ _ s _ q⟩
end
abbrev Cl (f:Nat)(a:List Value)(w:World)(R:Ending->World->Prop):Prop:=Calls Tryz.prog f a.toArray w R
abbrev Rt (f:Nat)(a:List Value)(v:Value)(w:World)(O S:List Nat)(L:List Th):Prop:=Cl f a w λe h=>e= .returned v/\Hd O w h S L
abbrev i6 (n:Int):Value:= .int .i64 n
abbrev sb (s:Str):Value:= .string (bs s)
abbrev f1 {α:Type}(r:Rp α)(v:Value)(l:List α):Th:= .fz (.sl r v l)
theorem Hbc {O S:List Nat}{a w:World}{l:List Th}{b:Nat}{T:TypeId}{cs:List Value}(H:Hd O a w S l)(i:Nat)(h:l[i]? =some (.blk b cs T)):Cells w ⟨b,0,none⟩ cs:=Blk.cells (H.V h)
theorem Hbg {O S:List Nat}{a w:World}{l:List Th}{b:Nat}{T:TypeId}{cs:List Value}{v:Value}(H:Hd O a w S l)(i j:Nat)(h:l[i]? =some (.blk b cs T))(c:cs[j]? =some v):w.cell? ⟨b,0+j,none⟩=some v:=Cells.get (Blk.cells (H.V h)) c
theorem XP {P:Program}{I:World->Prop}{N:Nat}{ops:Array Oper}{κ:List MxM.Kd}{K:MxM.Mm->Env->World->Prop}{k:Nat}{M:MxM.Mm}{σ:List Nat}{rest:List Oper}{ρ:Env}{w:World}{d:Nat}{ty:TypeId}{pos:String}{af:Array Edge}{g:Option (Nat×Bool)}{v:Value}{op:Op}(h: ∀a,I a->Do P ⟨some d,op,ty,pos,af,g⟩ ρ a v a)(n:MxM.XL P I N ops κ K M σ rest (upd ρ d v) w)(hk:MxM.kdOf κ k= .pure:=by exact rfl)(hw:fV N ops ρ ⟨some d,op,ty,pos,af,g⟩=true:=by exact rfl)(hd:Nat.blt d N=true:=by exact rfl):MxM.XL P I N ops κ K M (k::σ) (⟨some d,op,ty,pos,af,g⟩::rest) ρ w:=MxM.XL_pure hk hw hd h n
theorem XO {P:Program}{I:World->Prop}{N:Nat}{ops:Array Oper}{κ:List MxM.Kd}{K:MxM.Mm->Env->World->Prop}{k:Nat}{M:MxM.Mm}{σ:List Nat}{rest:List Oper}{ρ:Env}{w:World}{d:Nat}{ty:TypeId}{pos:String}{af:Array Edge}{g:Option (Nat×Bool)}{op:Op}(n:MxM.XL P I N ops κ K M σ rest (upd ρ d undef) w)(hk:MxM.kdOf κ k= .pure:=by exact rfl)(hw:fV N ops ρ ⟨some d,op,ty,pos,af,g⟩=false:=by exact rfl)(hd:Nat.blt d N=true:=by exact rfl):MxM.XL P I N ops κ K M (k::σ) (⟨some d,op,ty,pos,af,g⟩::rest) ρ w:=MxM.XL_offp hk hw hd n
theorem XM {P:Program}{I:World->Prop}{N:Nat}{ops:Array Oper}{κ:List MxM.Kd}{K:MxM.Mm->Env->World->Prop}{k:Nat}{M:MxM.Mm}{σ:List Nat}{rest:List Oper}{ρ:Env}{w:World}{d:Nat}{ty:TypeId}{pos:String}{af:Array Edge}{g:Option (Nat×Bool)}{x:Operand}(v:Value)(n:MxM.XL P I N ops κ K M σ rest (upd ρ d v) w)(hx:ev ρ x=v:=by exact rfl)(hk:MxM.kdOf κ k= .pure:=by exact rfl)(hw:fV N ops ρ ⟨some d,.move x,ty,pos,af,g⟩=true:=by exact rfl)(hd:Nat.blt d N=true:=by exact rfl):MxM.XL P I N ops κ K M (k::σ) (⟨some d,.move x,ty,pos,af,g⟩::rest) ρ w:=MxM.XL_pure hk hw hd (λ_ _=>nU hx) n
theorem XR {P:Program}{c:World}{e:List Nat}{N:Nat}{ops:Array Oper}{κ:List MxM.Kd}{K:MxM.Mm->Env->World->Prop}{k:Nat}{M:MxM.Mm}{σ:List Nat}{rest:List Oper}{ρ:Env}{w:World}{d:Nat}{ty:TypeId}{pos:String}{af:Array Edge}{g:Option (Nat×Bool)}{t:TypeId}{x:Operand}{O S:List Nat}{f:World}{l:List Th}{b:Nat}{T:TypeId}{cs:List Value}{v:Value}(o:aCm P t)(H:Hd O f w S l)(i j:Nat)(h:l[i]? =some (.blk b cs T))(p:cs[j]? =some v)(n:MxM.XL P (λa=>Only e c a) N ops κ K M σ rest (upd ρ d v) w)(hx:ev ρ x= .pointer (some ⟨b,0+j,none⟩):=by exact rfl)(hk:MxM.kdOf κ k= .read:=by exact rfl)(hw:fV N ops ρ ⟨some d,.load t x,ty,pos,af,g⟩=true:=by exact rfl)(hd:Nat.blt d N=true:=by exact rfl):MxM.XL P (λa=>Only e c a) N ops κ K M (k::σ) (⟨some d,.load t x,ty,pos,af,g⟩::rest) ρ w:=MxM.yV oS hk hw hd (λ_ q=>yD o hx (Hbg (H.Z q) i j h p)) n
theorem Ld {P:Program}{N:Nat}{ops:Array Oper}{Q:Exit->Env->World->Prop}{rest:List Oper}{ρ:Env}{w:World}{d:Nat}{t ty:TypeId}{x:Operand}{pos:String}{af:Array Edge}{g:Option (Nat×Bool)}{O S:List Nat}{a:World}{l:List Th}{b:Nat}{T:TypeId}{cs:List Value}{v:Value}(o:aCm P t)(H:Hd O a w S l)(i j:Nat)(h:l[i]? =some (.blk b cs T))(c:cs[j]? =some v)(k:RL P N ops Q rest (upd ρ d v) w)(hx:ev ρ x= .pointer (some ⟨b,0+j,none⟩):=by exact rfl)(hw:fV N ops ρ ⟨some d,.load t x,ty,pos,af,g⟩=true:=by exact rfl)(hd:Nat.blt d N=true:=by exact rfl):RL P N ops Q (⟨some d,.load t x,ty,pos,af,g⟩::rest) ρ w:=zO (yD o hx (Hbg H i j h c)) k hw hd
theorem fJ {f:FuncId}{fn:Func}(h:Tryz.prog.funcs[f]? =some fn)(a:fn.body.isSome=true:=by exact rfl)(b:(fn.name== "runtime.NumGoroutine")=false:=by kernel_rfl):Go.OB.Enters Tryz.prog f:=⟨_,h,a,b⟩
theorem u2:Tryz.prog.underlying 2=some (.int .i64):=Tryz.underlying2
theorem u3:Tryz.prog.underlying 3=some (.int .i64):=Tryz.underlying3
theorem u5:Tryz.prog.underlying 5=some (.int .u8):=Tryz.underlying5
theorem u9:Tryz.prog.underlying 9=some .string:=Tryz.underlying9
theorem u22:Tryz.prog.underlying 22=some (.slice 9):=Tryz.underlying22
theorem u23:Tryz.prog.underlying 23=some (.slice 86):=Tryz.underlying23
theorem u24:Tryz.prog.underlying 24=some (.slice 93):=Tryz.underlying24
theorem u27:Tryz.prog.underlying 27=some (.slice 53):=Tryz.underlying27
theorem u29:Tryz.prog.underlying 29=some (.slice 5):=Tryz.underlying29
theorem u32:Tryz.prog.underlying 32=some (.slice 75):=Tryz.underlying32
theorem u49:Tryz.prog.underlying 49=some (.slice 142):=Tryz.underlying49
theorem u59:Tryz.prog.underlying 59=some (.slice 63):=Tryz.underlying59
theorem u63:Tryz.prog.underlying 63=some (.slice 72):=Tryz.underlying63
theorem u82:Tryz.prog.underlying 82=some (.slice 84):=Tryz.underlying82
theorem u97:Tryz.prog.underlying 97=some (.map 9 4):=Tryz.underlying97
theorem kW:Tryz.prog.underlying 110=some (.slice 3):=Tryz.underlying110
theorem aWw:Tryz.prog.underlying 111=some (.slice 215):=Tryz.underlying111
theorem vW:Tryz.prog.underlying 112=some (.slice 268):=Tryz.underlying112
theorem nX:Tryz.prog.underlying 115=some (.slice 4):=Tryz.underlying115
theorem aHn:Tryz.prog.underlying 116=some (.slice 114):=Tryz.underlying116
theorem u158:Tryz.prog.underlying 158=some (.int .u64):=Tryz.underlying158
theorem aRd:Tryz.prog.underlying 166=some (.int .u64):=Tryz.underlying166
theorem bAi:Tryz.prog.underlying 188=some (.map 9 3):=Tryz.underlying188
theorem aYp:Tryz.prog.underlying 191=some (.slice 199):=Tryz.underlying191
theorem aDp:Tryz.prog.underlying 192=some (.slice 196):=Tryz.underlying192
theorem u215:Tryz.prog.underlying 215=some (.int .i8):=Tryz.underlying215
theorem aVx:Tryz.prog.underlying 254=some (.array 3 3):=Tryz.underlying254
theorem u273:Tryz.prog.underlying 273=some (.array 7 9):=Tryz.underlying273
theorem fo123_2:aGa Tryz.prog 123 2=some (2,3):=by kernel_rfl
theorem fo123_3:aGa Tryz.prog 123 3=some (3,9):=by kernel_rfl
theorem ui223:Tryz.prog.underlying 223=some (.interface (Tryz.prog.methodsAt 223)):=by kernel_rfl
abbrev szZ (a b:Nat):Prop:=Sz Tryz.prog a b
theorem szO {a b:Nat}(h:Sz Tryz.prog a b:=by unfold Sz;kernel_rfl):szZ a b:=h
theorem sz3:szZ 3 1:=szO
theorem sz4:szZ 4 1:=szO
theorem sz9:szZ 9 1:=szO
theorem sz22:szZ 22 1:=szO
theorem sz23:szZ 23 1:=szO
theorem sz24:szZ 24 1:=szO
theorem aW:szZ 26 3:=szO
theorem sz29:szZ 29 1:=szO
theorem aUx:szZ 51 2:=szO
theorem tJ:szZ 53 4:=szO
theorem sz55:szZ 55 1:=szO
theorem sz59:szZ 59 1:=szO
theorem aRw:szZ 63 1:=szO
theorem jE:szZ 72 2:=szO
theorem sz75:szZ 75 2:=szO
theorem eY:szZ 84 7:=szO
theorem aAw:szZ 86 9:=szO
theorem nY:szZ 93 8:=szO
theorem sz97:szZ 97 1:=szO
theorem aIo:szZ 110 1:=szO
theorem sz111:szZ 111 1:=szO
theorem aOi:szZ 112 1:=szO
theorem aFi:szZ 114 18:=szO
theorem sz115:szZ 115 1:=szO
theorem sz116:szZ 116 1:=szO
theorem aPp:szZ 123 4:=szO
theorem sz127:szZ 127 2:=szO
theorem aC:szZ 142 3:=szO
theorem nS:szZ 173 7:=szO
theorem sz191:szZ 191 1:=szO
theorem sz192:szZ 192 1:=szO
theorem aEx:szZ 196 1:=szO
theorem aOt:szZ 199 3:=szO
theorem aId:szZ 215 1:=szO
theorem sz254:szZ 254 3:=szO
theorem aIg:szZ 268 2:=szO
abbrev rW (a:Nat):Prop:=aCm Tryz.prog a
theorem sH {a:Nat}(h:aCm Tryz.prog a:=by unfold aCm;kernel_rfl):rW a:=h
theorem fB:rW 3:=sH
theorem mZ:rW 4:=sH
theorem dC:rW 9:=sH
theorem kS:rW 22:=sH
theorem uI:rW 23:=sH
theorem kV:rW 24:=sH
theorem aFq:rW 27:=sH
theorem bDo:rW 29:=sH
theorem one33:rW 33:=sH
theorem vI:rW 49:=sH
theorem one55:rW 55:=sH
theorem aQe:rW 57:=sH
theorem bBi:rW 59:=sH
theorem aAb:rW 63:=sH
theorem jL:rW 82:=sH
theorem one97:rW 97:=sH
theorem bQ:rW 110:=sH
theorem aEe:rW 111:=sH
theorem nD:rW 112:=sH
theorem aAu:rW 115:=sH
theorem vO:rW 116:=sH
theorem aHm:rW 121:=sH
theorem aEf:rW 188:=sH
theorem aZy:rW 191:=sH
theorem bAd:rW 192:=sH
theorem qM:rW 196:=sH
theorem one215:rW 215:=sH
abbrev aEb (a:Nat):Prop:=Agg Tryz.prog a
theorem aFd {a:Nat}(h:Agg Tryz.prog a:=by unfold Agg;kernel_rfl):aEb a:=h
theorem dK:aEb 26:=aFd
theorem aIe:aEb 51:=aFd
theorem aWa:aEb 53:=aFd
theorem aBj:aEb 72:=aFd
theorem eX:aEb 84:=aFd
theorem aPg:aEb 86:=aFd
theorem aIm:aEb 93:=aFd
theorem agg114:aEb 114:=aFd
theorem aYv:aEb 123:=aFd
theorem rQ:aEb 142:=aFd
theorem vJ:aEb 173:=aFd
theorem agg199:aEb 199:=aFd
theorem agg254:aEb 254:=aFd
theorem zero3:Go.OB.Zero Tryz.prog 3 ([i6 0]):=by unfold Go.OB.Zero;kernel_rfl
theorem zero4:Go.OB.Zero Tryz.prog 4 ([vb false]):=by unfold Go.OB.Zero;kernel_rfl
theorem zero22:Go.OB.Zero Tryz.prog 22 ([.slice none 0 0]):=by unfold Go.OB.Zero;kernel_rfl
theorem zero26:Go.OB.Zero Tryz.prog 26 ([.slice none 0 0,.slice none 0 0,.slice none 0 0]):=by unfold Go.OB.Zero;kernel_rfl
theorem bAh:Go.OB.Zero Tryz.prog 53 ([.string (bs []),i6 0,.slice none 0 0,i6 0]):=by unfold Go.OB.Zero;kernel_rfl
theorem zero55:Go.OB.Zero Tryz.prog 55 ([.nilFunc]):=by unfold Go.OB.Zero;kernel_rfl
theorem sK:Go.OB.Zero Tryz.prog 72 ([i6 0,vb false]):=by unfold Go.OB.Zero;kernel_rfl
theorem pG:Go.OB.Zero Tryz.prog 84 ([i6 0,.string (bs []),.string (bs []),i6 0,i6 0,i6 0,.slice none 0 0]):=by unfold Go.OB.Zero;kernel_rfl
theorem aKh:Go.OB.Zero Tryz.prog 86 ([.string (bs []),.string (bs []),i6 0,.string (bs []),.string (bs []),i6 0,i6 0,i6 0,.slice none 0 0]):=by unfold Go.OB.Zero;kernel_rfl
theorem aKy:Go.OB.Zero Tryz.prog 93 ([.string (bs []),i6 0,.string (bs []),.string (bs []),i6 0,i6 0,i6 0,.slice none 0 0]):=by unfold Go.OB.Zero;kernel_rfl
theorem zero97:Go.OB.Zero Tryz.prog 97 ([.map none]):=by unfold Go.OB.Zero;kernel_rfl
theorem zero114:Go.OB.Zero Tryz.prog 114 ([i6 0,.string (bs []),.string (bs []),i6 0,i6 0,i6 0,.slice none 0 0,.slice none 0 0,i6 0,i6 0,i6 0,.slice none 0 0,i6 0,i6 0,i6 0,i6 0,.slice none 0 0,.slice none 0 0]):=by unfold Go.OB.Zero;kernel_rfl
theorem bBg:Go.OB.Zero Tryz.prog 123 ([i6 0,i6 0,i6 0,.string (bs [])]):=by unfold Go.OB.Zero;kernel_rfl
theorem zero127:Go.OB.Zero Tryz.prog 127 ([i6 0,i6 0]):=by unfold Go.OB.Zero;kernel_rfl
theorem wG:Go.OB.Zero Tryz.prog 142 ([i6 0,i6 0,i6 0]):=by unfold Go.OB.Zero;kernel_rfl
theorem bCx:Go.OB.Zero Tryz.prog 173 ([vb false,vb false,vb false,vb false,vb false,i6 0,i6 0]):=by unfold Go.OB.Zero;kernel_rfl
theorem bCl:Go.OB.Zero Tryz.prog 199 ([i6 0,i6 0,.nilIface]):=by unfold Go.OB.Zero;kernel_rfl
theorem zero254:Go.OB.Zero Tryz.prog 254 ((Fl.arr 3 (Fl.int .i64)).f (Arr.rep 3 0:Arr 3 Int)):=by unfold Go.OB.Zero;kernel_rfl
theorem el3:El Tryz.prog 3 1 8 ([i6 0]):=⟨by kernel_rfl,by kernel_rfl,by kernel_rfl,by decide,by decide⟩
theorem el4:El Tryz.prog 4 1 1 ([vb false]):=⟨by kernel_rfl,by kernel_rfl,by kernel_rfl,by decide,by decide⟩
theorem el5:El Tryz.prog 5 1 1 ([.int .u8 0]):=⟨by kernel_rfl,by kernel_rfl,by kernel_rfl,by decide,by decide⟩
theorem el9:El Tryz.prog 9 1 16 ([.string (bs [])]):=⟨by kernel_rfl,by kernel_rfl,by kernel_rfl,by decide,by decide⟩
theorem el63:El Tryz.prog 63 1 24 ([.slice none 0 0]):=⟨by kernel_rfl,by kernel_rfl,by kernel_rfl,by decide,by decide⟩
theorem aZd:El Tryz.prog 72 2 16 ([i6 0,vb false]):=⟨by kernel_rfl,by kernel_rfl,by kernel_rfl,by decide,by decide⟩
theorem el75:El Tryz.prog 75 2 24 ([.string (bs []),i6 0]):=⟨by kernel_rfl,by kernel_rfl,by kernel_rfl,by decide,by decide⟩
theorem el84:El Tryz.prog 84 7 88 ([i6 0,.string (bs []),.string (bs []),i6 0,i6 0,i6 0,.slice none 0 0]):=⟨by kernel_rfl,by kernel_rfl,by kernel_rfl,by decide,by decide⟩
theorem el93:El Tryz.prog 93 8 104 ([.string (bs []),i6 0,.string (bs []),.string (bs []),i6 0,i6 0,i6 0,.slice none 0 0]):=⟨by kernel_rfl,by kernel_rfl,by kernel_rfl,by decide,by decide⟩
theorem el114:El Tryz.prog 114 18 240 ([i6 0,.string (bs []),.string (bs []),i6 0,i6 0,i6 0,.slice none 0 0,.slice none 0 0,i6 0,i6 0,i6 0,.slice none 0 0,i6 0,i6 0,i6 0,i6 0,.slice none 0 0,.slice none 0 0]):=⟨by kernel_rfl,by kernel_rfl,by kernel_rfl,by decide,by decide⟩
theorem aVz:El Tryz.prog 196 1 16 ([.nilIface]):=⟨by kernel_rfl,by kernel_rfl,by kernel_rfl,by decide,by decide⟩
theorem el199:El Tryz.prog 199 3 32 ([i6 0,i6 0,.nilIface]):=⟨by kernel_rfl,by kernel_rfl,by kernel_rfl,by decide,by decide⟩
theorem el215:El Tryz.prog 215 1 1 ([.int .i8 0]):=⟨by kernel_rfl,by kernel_rfl,by kernel_rfl,by decide,by decide⟩
theorem aOj:El Tryz.prog 268 2 16 ([i6 0,i6 0]):=⟨by kernel_rfl,by kernel_rfl,by kernel_rfl,by decide,by decide⟩
theorem z8_5:Z8 Tryz.prog 5:=by unfold Z8;kernel_rfl
theorem bz31:Tryz.prog.built 31 []=some ([.slice none 0 0]).toArray:=by kernel_rfl
theorem bz72:Tryz.prog.built 72 []=some ([i6 0,vb false]).toArray:=by kernel_rfl
theorem bz142:Tryz.prog.built 142 []=some ([i6 0,i6 0,i6 0]).toArray:=by kernel_rfl
theorem bz173:Tryz.prog.built 173 []=some ([vb false,vb false,vb false,vb false,vb false,i6 0,i6 0]).toArray:=by kernel_rfl
theorem aSa (a:Option Addr)(b c:Nat)(d:Option Addr)(e f:Nat)(h:Option Addr)(i j:Nat)(k:Option Addr)(l n:Nat)(o p:Int):Tryz.prog.built 61 [(0,.agg [.slice a b c,.slice d e f,.slice h i j].toArray),(1,.slice k l n),(2,i6 o),(3,i6 p)]=some [.slice a b c,.slice d e f,.slice h i j,.slice k l n,i6 o,i6 p,.slice none 0 0].toArray:=by kernel_rfl
theorem aVq (a:Int)(b:Bool):Tryz.prog.built 72 [(0,i6 a),(1,vb b)]=some [i6 a,vb b].toArray:=by kernel_rfl
theorem aTx (a:Str)(b:Int):Tryz.prog.built 75 [(0,sb a),(1,i6 b)]=some [sb a,i6 b].toArray:=by kernel_rfl
theorem bt84_0_1 (a:Int)(b:Str):Tryz.prog.built 84 [(0,i6 a),(1,sb b)]=some [i6 a,sb b,.string (bs []),i6 0,i6 0,i6 0,.slice none 0 0].toArray:=by kernel_rfl
theorem bt93_0 (a:Str):Tryz.prog.built 93 [(0,sb a)]=some [sb a,i6 0,.string (bs []),.string (bs []),i6 0,i6 0,i6 0,.slice none 0 0].toArray:=by kernel_rfl
theorem bt114_0 (a:Int)(b c:Str)(d e f:Int)(h:Option Addr)(i j:Nat):Tryz.prog.built 114 [(0,.agg [i6 a,sb b,sb c,i6 d,i6 e,i6 f,.slice h i j].toArray)]=some [i6 a,sb b,sb c,i6 d,i6 e,i6 f,.slice h i j,.slice none 0 0,i6 0,i6 0,i6 0,.slice none 0 0,i6 0,i6 0,i6 0,i6 0,.slice none 0 0,.slice none 0 0].toArray:=by kernel_rfl
theorem bt118_0_5 (a:Option Addr)(b c:Nat)(d:Option Addr)(e f:Nat)(h:Option Addr)(i j:Nat)(k:Option Addr)(l n:Nat):Tryz.prog.built 118 [(0,.agg [.slice a b c,.slice d e f,.slice h i j].toArray),(5,.slice k l n)]=some [.slice a b c,.slice d e f,.slice h i j,.slice none 0 0,.slice none 0 0,.slice none 0 0,i6 0,.slice k l n,.slice none 0 0,i6 0,.slice none 0 0,.slice none 0 0].toArray:=by kernel_rfl
theorem bt123_0_1 (a b:Int):Tryz.prog.built 123 [(0,i6 a),(1,i6 b)]=some [i6 a,i6 b,i6 0,.string (bs [])].toArray:=by kernel_rfl
theorem bt125_0 (a:Str):Tryz.prog.built 125 [(0,sb a)]=some [sb a,i6 0,i6 0,i6 0,i6 0,.string (bs []),.slice none 0 0,.slice none 0 0,.slice none 0 0].toArray:=by kernel_rfl
theorem bt173_0 (a:Bool):Tryz.prog.built 173 [(0,vb a)]=some [vb a,vb false,vb false,vb false,vb false,i6 0,i6 0].toArray:=by kernel_rfl
theorem aTh (a b c:Bool):Tryz.prog.built 173 [(0,vb a),(1,vb b),(2,vb c)]=some [vb a,vb b,vb c,vb false,vb false,i6 0,i6 0].toArray:=by kernel_rfl
theorem aUh (a b c:Bool):Tryz.prog.built 173 [(0,vb a),(2,vb b),(3,vb c)]=some [vb a,vb false,vb b,vb c,vb false,i6 0,i6 0].toArray:=by kernel_rfl
theorem aUs (a b c:Bool):Tryz.prog.built 173 [(0,vb a),(3,vb b),(4,vb c)]=some [vb a,vb false,vb false,vb b,vb c,i6 0,i6 0].toArray:=by kernel_rfl
theorem aNy (a b:Bool)(c d:Int):Tryz.prog.built 173 [(3,vb a),(4,vb b),(5,i6 c),(6,i6 d)]=some [vb false,vb false,vb false,vb a,vb b,i6 c,i6 d].toArray:=by kernel_rfl
theorem aWc (a:Bool)(b c:Int):Tryz.prog.built 173 [(4,vb a),(5,i6 b),(6,i6 c)]=some [vb false,vb false,vb false,vb false,vb a,i6 b,i6 c].toArray:=by kernel_rfl
theorem aHj (a b:Int):Tryz.prog.built 173 [(5,i6 a),(6,i6 b)]=some [vb false,vb false,vb false,vb false,vb false,i6 a,i6 b].toArray:=by kernel_rfl
theorem aVf (a:Option Nat)(b:Option Addr)(c d:Nat)(e:Option Nat):Tryz.prog.built 190 [(0,.map a),(2,.slice b c d),(3,.map e)]=some [.map a,.slice none 0 0,.slice b c d,.map e].toArray:=by kernel_rfl
theorem aUt (a:Option Addr)(b c:Nat)(d:Int)(e:Option Addr)(f h:Nat):Tryz.prog.built 194 [(0,.slice a b c),(1,i6 d),(4,.slice e f h)]=some [.slice a b c,i6 d,.slice none 0 0,.slice none 0 0,.slice e f h].toArray:=by kernel_rfl
theorem aTm (a b:Int)(a2T:TypeId)(c:Value):Tryz.prog.built 199 [(0,i6 a),(1,i6 b),(2,.iface a2T c)]=some [i6 a,i6 b,.iface a2T c].toArray:=by kernel_rfl
theorem bt202_0 (a:Option Addr)(b c:Nat):Tryz.prog.built 202 [(0,.slice a b c)]=some [.slice a b c,.slice none 0 0,.slice none 0 0].toArray:=by kernel_rfl
theorem bCt (a:Int):Tryz.prog.built 235 [(0,i6 a)]=some [i6 a].toArray:=by kernel_rfl
theorem aWr (a b c:Int):Tryz.prog.built 237 [(0,i6 a),(1,i6 b),(2,i6 c)]=some [i6 a,i6 b,i6 c].toArray:=by kernel_rfl
theorem aIq (a b c d e:Int):Tryz.prog.built 239 [(0,i6 a),(1,i6 b),(2,i6 c),(3,i6 d),(4,i6 e)]=some [i6 a,i6 b,i6 c,i6 d,i6 e].toArray:=by kernel_rfl
theorem aVi (a b c:Int):Tryz.prog.built 242 [(0,i6 a),(1,i6 b),(2,i6 c)]=some [i6 a,i6 b,i6 c,.slice none 0 0].toArray:=by kernel_rfl
theorem bt244_0 (a:Int):Tryz.prog.built 244 [(0,i6 a)]=some [i6 a].toArray:=by kernel_rfl
theorem bt246_0 (a:Int):Tryz.prog.built 246 [(0,i6 a)]=some [i6 a].toArray:=by kernel_rfl
theorem bt249_0 (a0T:TypeId)(a:Value):Tryz.prog.built 249 [(0,.iface a0T a)]=some [.iface a0T a].toArray:=by kernel_rfl
theorem bt252_0_1 (a:Option Addr)(b c:Nat)(d:Bool):Tryz.prog.built 252 [(0,.slice a b c),(1,vb d)]=some [.slice a b c,vb d].toArray:=by kernel_rfl
theorem aBv (a0T:TypeId)(a:Value)(b c:Int):Tryz.prog.built 256 [(0,.iface a0T a),(1,i6 b),(2,i6 c)]=some [.iface a0T a,i6 b,i6 c,.slice none 0 0,i6 0,i6 0,i6 0].toArray:=by kernel_rfl
theorem bt259_0_1 (a0T:TypeId)(a:Value)(a1T:TypeId)(b:Value):Tryz.prog.built 259 [(0,.iface a0T a),(1,.iface a1T b)]=some [.iface a0T a,.iface a1T b,i6 0,vb false].toArray:=by kernel_rfl
theorem bt262_0 (a0T:TypeId)(a:Value):Tryz.prog.built 262 [(0,.iface a0T a)]=some [.iface a0T a,i6 0,vb false].toArray:=by kernel_rfl
theorem aOd (a b:Int):Tryz.prog.built 268 [(0,i6 a),(1,i6 b)]=some [i6 a,i6 b].toArray:=by kernel_rfl
abbrev gW (b:Nat):Value:= .pointer (some ⟨b,0,none⟩)
def FAt (t i m:Nat):Prop:= ∀{ρ:Env}{w:World}{d:Option Tmp}{x:Operand}{ty:TypeId}{pos:String}{af:Array Edge}{g:Option (Nat×Bool)}{b o:Nat} (_:ev ρ x= .pointer (some ⟨b,o,none⟩)),Do Tryz.prog ⟨d,.fieldAddr t x i,ty,pos,af,g⟩ ρ w (.pointer (some ⟨b,o+m,none⟩)) w
theorem faO {t i m:Nat}(n:Nat)(h:aKk Tryz.prog t i=some (m,some n):=by kernel_rfl)(hn:n≠0:=by decide):FAt t i m:=λhx=>aNs h hn hx
theorem aU:FAt 26 0 0:=faO 1
theorem mY:FAt 26 1 1:=faO 1
theorem dS:FAt 26 2 2:=faO 1
theorem aEp:FAt 31 0 0:=faO 1
theorem aRt:FAt 51 0 0:=faO 1
theorem qF:FAt 51 1 1:=faO 1
theorem uC:FAt 53 0 0:=faO 1
theorem aHp:FAt 53 1 1:=faO 2
theorem aSo:FAt 53 2 3:=faO 1
theorem fa61_0:FAt 61 0 0:=faO 3
theorem fa61_1:FAt 61 1 3:=faO 1
theorem aZv:FAt 61 2 4:=faO 1
theorem fa61_3:FAt 61 3 5:=faO 1
theorem aKm:FAt 61 4 6:=faO 1
theorem rH:FAt 72 0 0:=faO 1
theorem uF:FAt 72 1 1:=faO 1
theorem fa75_0:FAt 75 0 0:=faO 1
theorem fa75_1:FAt 75 1 1:=faO 1
theorem bF:FAt 84 0 0:=faO 1
theorem kR:FAt 84 1 1:=faO 1
theorem aBp:FAt 84 2 2:=faO 1
theorem wW:FAt 84 3 3:=faO 1
theorem pJ:FAt 84 4 4:=faO 1
theorem jX:FAt 84 5 5:=faO 1
theorem aJ:FAt 84 6 6:=faO 1
theorem aQj:FAt 86 0 0:=faO 1
theorem aTd:FAt 86 1 1:=faO 1
theorem aBa:FAt 86 2 2:=faO 7
theorem vK:FAt 93 0 0:=faO 1
theorem sN:FAt 93 1 1:=faO 7
theorem nV:FAt 114 0 0:=faO 7
theorem uN:FAt 114 1 7:=faO 1
theorem bDd:FAt 114 2 8:=faO 1
theorem kT:FAt 114 3 9:=faO 1
theorem bBn:FAt 114 4 10:=faO 1
theorem wC:FAt 114 5 11:=faO 1
theorem uP:FAt 114 6 12:=faO 1
theorem aBe:FAt 114 7 13:=faO 1
theorem aAq:FAt 114 8 14:=faO 1
theorem aFz:FAt 114 9 15:=faO 1
theorem jV:FAt 114 10 16:=faO 1
theorem nC:FAt 114 11 17:=faO 1
theorem aCw:FAt 118 0 0:=faO 3
theorem aRu:FAt 118 1 3:=faO 1
theorem aSs:FAt 118 2 4:=faO 1
theorem bDs:FAt 118 3 5:=faO 1
theorem aDl:FAt 118 4 6:=faO 1
theorem aFa:FAt 118 5 7:=faO 1
theorem qE:FAt 118 6 8:=faO 1
theorem aRh:FAt 118 7 9:=faO 1
theorem aSp:FAt 118 8 10:=faO 1
theorem aKa:FAt 118 9 11:=faO 1
theorem qC:FAt 123 0 0:=faO 1
theorem fa123_2:FAt 123 2 2:=faO 1
theorem aGd:FAt 123 3 3:=faO 1
theorem aAp:FAt 125 0 0:=faO 1
theorem qB:FAt 125 1 1:=faO 1
theorem aQ:FAt 125 2 2:=faO 4
theorem aJk:FAt 125 3 6:=faO 3
theorem fa127_1:FAt 127 1 1:=faO 1
theorem tC:FAt 142 0 0:=faO 1
theorem aCv:FAt 142 1 1:=faO 1
theorem aDm:FAt 142 2 2:=faO 1
theorem bDm:FAt 173 0 0:=faO 1
theorem bBf:FAt 173 1 1:=faO 1
theorem bCk:FAt 173 2 2:=faO 1
theorem bBm:FAt 173 3 3:=faO 1
theorem bCz:FAt 173 4 4:=faO 1
theorem fa173_5:FAt 173 5 5:=faO 1
theorem fa173_6:FAt 173 6 6:=faO 1
theorem aGk:FAt 190 0 0:=faO 1
theorem aJg:FAt 190 1 1:=faO 1
theorem fa190_2:FAt 190 2 2:=faO 1
theorem bCd:FAt 190 3 3:=faO 1
theorem fa194_0:FAt 194 0 0:=faO 1
theorem aJh:FAt 194 2 2:=faO 1
theorem aRm:FAt 194 3 3:=faO 1
theorem aJp:FAt 194 4 4:=faO 1
theorem fa199_0:FAt 199 0 0:=faO 1
theorem fa199_1:FAt 199 1 1:=faO 1
theorem fa199_2:FAt 199 2 2:=faO 1
theorem aJd:FAt 202 0 0:=faO 1
theorem aSb:FAt 202 1 1:=faO 1
theorem aIx:FAt 202 2 2:=faO 1
theorem fa235_0:FAt 235 0 0:=faO 1
theorem fa237_0:FAt 237 0 0:=faO 1
theorem fa237_1:FAt 237 1 1:=faO 1
theorem fa237_2:FAt 237 2 2:=faO 1
theorem fa239_0:FAt 239 0 0:=faO 1
theorem fa239_1:FAt 239 1 1:=faO 1
theorem fa239_2:FAt 239 2 2:=faO 1
theorem fa239_3:FAt 239 3 3:=faO 1
theorem fa239_4:FAt 239 4 4:=faO 1
theorem fa242_0:FAt 242 0 0:=faO 1
theorem fa242_1:FAt 242 1 1:=faO 1
theorem bDn:FAt 242 2 2:=faO 1
theorem bBk:FAt 242 3 3:=faO 1
theorem fa244_0:FAt 244 0 0:=faO 1
theorem fa246_0:FAt 246 0 0:=faO 1
theorem fa249_0:FAt 249 0 0:=faO 1
theorem fa252_0:FAt 252 0 0:=faO 1
theorem fa252_1:FAt 252 1 1:=faO 1
theorem fa256_0:FAt 256 0 0:=faO 1
theorem bBr:FAt 256 1 1:=faO 1
theorem bCs:FAt 256 2 2:=faO 1
theorem aCx:FAt 256 3 3:=faO 1
theorem aFb:FAt 256 4 4:=faO 3
theorem fa259_0:FAt 259 0 0:=faO 1
theorem fa259_1:FAt 259 1 1:=faO 1
theorem aSz:FAt 259 2 2:=faO 1
theorem fa259_3:FAt 259 3 3:=faO 1
theorem fa262_0:FAt 262 0 0:=faO 1
theorem aRc:FAt 262 1 1:=faO 1
theorem fa262_2:FAt 262 2 2:=faO 1
theorem fa268_0:FAt 268 0 0:=faO 1
theorem aJv:FAt 268 1 1:=faO 1
abbrev fM:=f1 Rp.str
abbrev dG:=f1 dB
abbrev dI:=f1 dD
abbrev dJ:=f1 eQ
abbrev kF:=f1 Rp.bool
abbrev jS:=f1 dE
abbrev nN:=f1 aCn
abbrev vN:=f1 (Rp.int .i64)
abbrev aDq:=f1 bK
abbrev dA:=Rt.row (Rt.of (Rp.int .i64)) 3 []
abbrev bH:=Rt.row bV 114 []
abbrev rV:=Rt.row (Rt.of dE) 72 []
abbrev uO:=Rt.row wF 199 []
abbrev aHd:=Rt.row (Rt.of fP) 268 []
abbrev uY:=Rt.row bI 196 []
abbrev rw_7:=Rt.row (Rt.of (Rp.int .i8)) 215 []
section
variable {O S:List Nat}{v w:World}{a b c d e f g i j k l m n o p q r s t u x y z A B C D:Th}
abbrev hh (p:Prop):Prop:=p->p
theorem un1:hh (Hd O v w S [a]):=id
theorem un2:hh (Hd O v w S [a,b]):=id
theorem un3:hh (Hd O v w S [a,b,c]):=id
theorem un4:hh (Hd O v w S [a,b,c,d]):=id
theorem un5:hh (Hd O v w S [a,b,c,d,e]):=id
theorem un6:hh (Hd O v w S [a,b,c,d,e,f]):=id
theorem un7:hh (Hd O v w S [a,b,c,d,e,f,g]):=id
theorem un8:hh (Hd O v w S [a,b,c,d,e,f,g,i]):=id
theorem un9:hh (Hd O v w S [a,b,c,d,e,f,g,i,j]):=id
theorem qI:hh (Hd O v w S [a,b,c,d,e,f,g,i,j,k]):=id
theorem mG:hh (Hd O v w S [a,b,c,d,e,f,g,i,j,k,l]):=id
theorem bC:hh (Hd O v w S [a,b,c,d,e,f,g,i,j,k,l,m]):=id
theorem dR:hh (Hd O v w S [a,b,c,d,e,f,g,i,j,k,l,m,n]):=id
theorem kN:hh (Hd O v w S [a,b,c,d,e,f,g,i,j,k,l,m,n,o]):=id
theorem vU:hh (Hd O v w S [a,b,c,d,e,f,g,i,j,k,l,m,n,o,p]):=id
theorem rO:hh (Hd O v w S [a,b,c,d,e,f,g,i,j,k,l,m,n,o,p,q]):=id
theorem aK:hh (Hd O v w S [a,b,c,d,e,f,g,i,j,k,l,m,n,o,p,q,r]):=id
theorem uG:hh (Hd O v w S [a,b,c,d,e,f,g,i,j,k,l,m,n,o,p,q,r,s]):=id
theorem aYw:hh (Hd O v w S [a,b,c,d,e,f,g,i,j,k,l,m,n,o,p,q,r,s,t]):=id
theorem un20:hh (Hd O v w S [a,b,c,d,e,f,g,i,j,k,l,m,n,o,p,q,r,s,t,u]):=id
theorem un21:hh (Hd O v w S [a,b,c,d,e,f,g,i,j,k,l,m,n,o,p,q,r,s,t,u,x]):=id
theorem un22:hh (Hd O v w S [a,b,c,d,e,f,g,i,j,k,l,m,n,o,p,q,r,s,t,u,x,y]):=id
theorem un23:hh (Hd O v w S [a,b,c,d,e,f,g,i,j,k,l,m,n,o,p,q,r,s,t,u,x,y,z]):=id
theorem un24:hh (Hd O v w S [a,b,c,d,e,f,g,i,j,k,l,m,n,o,p,q,r,s,t,u,x,y,z,A]):=id
theorem un26:hh (Hd O v w S [a,b,c,d,e,f,g,i,j,k,l,m,n,o,p,q,r,s,t,u,x,y,z,A,B,C]):=id
theorem un27:hh (Hd O v w S [a,b,c,d,e,f,g,i,j,k,l,m,n,o,p,q,r,s,t,u,x,y,z,A,B,C,D]):=id
end
section
variable {P:Program}{N:Nat}{ops:Array Oper}{Q:Exit->Env->World->Prop}{rest:List Oper}{ρ:Env}{w:World}{d f:Nat}{t u ty tz:TypeId}{x y:Operand}{pos qos:String}{af bf:Array Edge}{g h:Option (Nat×Bool)}{b o m i:Nat}
theorem nf (hx:ev ρ x= .pointer (some ⟨b,o,none⟩))(fa:FAt t i m)(n:RL Tryz.prog N ops Q rest (upd (upd ρ d (.pointer (some ⟨b,o,none⟩))) f (.pointer (some ⟨b,o+m,none⟩))) w)(hy:ev (upd ρ d (.pointer (some ⟨b,o,none⟩))) y= .pointer (some ⟨b,o,none⟩):=by exact rfl)(hw:fV N ops ρ ⟨some d,.nilCheck x,ty,pos,af,g⟩=true:=by exact rfl)(hd:Nat.blt d N=true:=by exact rfl)(hv:fV N ops (upd ρ d (.pointer (some ⟨b,o,none⟩))) ⟨some f,.fieldAddr t y i,tz,qos,bf,h⟩=true:=by exact rfl)(hf:Nat.blt f N=true:=by exact rfl):RL Tryz.prog N ops Q (⟨some d,.nilCheck x,ty,pos,af,g⟩::⟨some f,.fieldAddr t y i,tz,qos,bf,h⟩::rest) ρ w:=zO (cZ hx) (zO (fa hy) n hv hf) hw hd
theorem Xn {I:World->Prop}{κ:List MxM.Kd}{K:MxM.Mm->Env->World->Prop}{k q:Nat}{M:MxM.Mm}{σ:List Nat}(hx:ev ρ x= .pointer (some ⟨b,o,none⟩))(fa:FAt t i m)(n:MxM.XL Tryz.prog I N ops κ K M σ rest (upd (upd ρ d (.pointer (some ⟨b,o,none⟩))) f (.pointer (some ⟨b,o+m,none⟩))) w)(hy:ev (upd ρ d (.pointer (some ⟨b,o,none⟩))) y= .pointer (some ⟨b,o,none⟩):=by exact rfl)(hk:MxM.kdOf κ k= .pure:=by exact rfl)(hq:MxM.kdOf κ q= .pure:=by exact rfl)(hw:fV N ops ρ ⟨some d,.nilCheck x,ty,pos,af,g⟩=true:=by exact rfl)(hd:Nat.blt d N=true:=by exact rfl)(hv:fV N ops (upd ρ d (.pointer (some ⟨b,o,none⟩))) ⟨some f,.fieldAddr t y i,tz,qos,bf,h⟩=true:=by exact rfl)(hf:Nat.blt f N=true:=by exact rfl):MxM.XL Tryz.prog I N ops κ K M (k::q::σ) (⟨some d,.nilCheck x,ty,pos,af,g⟩::⟨some f,.fieldAddr t y i,tz,qos,bf,h⟩::rest) ρ w:=XQ (cZ hx) (XQ (fa hy) n hq hv hf) hk hw hd
theorem nJ {I:World->Prop}{κ:List MxM.Kd}{K:MxM.Mm->Env->World->Prop}{M:MxM.Mm}{σ O S:List Nat}{v u:World}{l r:List Th}(G:Hd O v u S r)(H:Hd O u w (bks r) l)(n: ∀a,Hd O v a S l->K M ρ a):MxM.XL P I N ops κ K M σ [] ρ w:=MxM.xJ λa s=>n a (G.rj (H.Z s))
theorem RH {O S bs:List Nat}{v:World}{l:List Th}{α:Type}{R:Go.Lf.Rt α}{e:TypeId}{D:Hol}{c:List Value}{xl:List α}{j:Int}{a:α}{z y:Value}{n p:Nat}(f:aCm P t)(H:Hd O v w S l)(i q:Nat)(hi:l[i]? =some (.tr (Rt.row R e ((j.toNat,c)::D)) [z] bs xl))(hv:z= .slice (some ⟨b,o,none⟩) n p)(hx:at' xl j=some a)(hq:c[q]? =some y)(k:RL P N ops Q rest (upd ρ d y) w)(he:ev ρ x= .pointer (some ⟨b,o+j.toNat*R.sz+q,none⟩):=by exact rfl)(hw:fV N ops ρ ⟨some d,.load t x,ty,pos,af,g⟩=true:=by exact rfl)(hd:Nat.blt d N=true:=by exact rfl):RL P N ops Q (⟨some d,.load t x,ty,pos,af,g⟩::rest) ρ w:=zO (yD f he (Cells.get (H.holeW i hi hv hx Z bU) hq)) k hw hd
theorem XH {h:World}{r:List Nat}{κ:List MxM.Kd}{K:MxM.Mm->Env->World->Prop}{k:Nat}{M:MxM.Mm}{σ O S bs:List Nat}{v:World}{l:List Th}{α:Type}{R:Go.Lf.Rt α}{e:TypeId}{D:Hol}{c:List Value}{xl:List α}{j:Int}{a:α}{z y:Value}{n p:Nat}(u:aCm P t)(H:Hd O v w S l)(i q:Nat)(hi:l[i]? =some (.tr (Rt.row R e ((j.toNat,c)::D)) [z] bs xl))(hv:z= .slice (some ⟨b,o,none⟩) n p)(hx:at' xl j=some a)(hq:c[q]? =some y)(m:MxM.XL P (λf=>Only r h f) N ops κ K M σ rest (upd ρ d y) w)(he:ev ρ x= .pointer (some ⟨b,o+j.toNat*R.sz+q,none⟩):=by exact rfl)(hk:MxM.kdOf κ k= .read:=by exact rfl)(hw:fV N ops ρ ⟨some d,.load t x,ty,pos,af,g⟩=true:=by exact rfl)(hd:Nat.blt d N=true:=by exact rfl):MxM.XL P (λf=>Only r h f) N ops κ K M (k::σ) (⟨some d,.load t x,ty,pos,af,g⟩::rest) ρ w:=MxM.yV oS hk hw hd (λ_ s=>yD u he (Cells.get ((H.Z s).holeW i hi hv hx rfl bU) hq)) m
end
theorem _root_.Go.Lf.Hd.im {O S:List Nat}{v w:World}{l:List Th}(H:Hd O v w S l)(i:Nat){it:Th}(h:l[i]? =some it):it.holds (frees O l) w:=H.V h
theorem _root_.Go.Lf.Hm.im {n:Nat}{A:Nat->Prop}{O S:List Nat}{v w:World}{l:List Th}(H:Hm n A O v w S l)(i:Nat){it:Th}(h:l[i]? =some it):it.holds (frm O l v) w:=H.V h
theorem p1z {P:Program}{R:Ending->World->Prop}{ρ:Env}{w:World}{rs:Array ResultVar}{t:Tmp}{v:Value}(h:R (.returned v) w)(hr:rs= #[.tmp t]:=by exact rfl)(a:ρ t=v:=by exact rfl):wI P rs R .ret ρ w:=aLr hr a h
theorem en6:En 6:=fJ Tryz.func6
theorem en7:En 7:=fJ Tryz.func7
theorem en9:En 9:=fJ Tryz.func9
theorem en10:En 10:=fJ Tryz.func10
theorem en12:En 12:=fJ Tryz.func12
theorem en14:En 14:=fJ Tryz.func14
theorem en15:En 15:=fJ Tryz.func15
theorem en18:En 18:=fJ Tryz.func18
theorem en21:En 21:=fJ Tryz.func21
theorem en23:En 23:=fJ Tryz.func23
theorem en26:En 26:=fJ Tryz.func26
theorem en27:En 27:=fJ Tryz.func27
theorem en28:En 28:=fJ Tryz.func28
theorem en32:En 32:=fJ Tryz.func32
theorem en33:En 33:=fJ Tryz.func33
theorem en34:En 34:=fJ Tryz.func34
theorem en38:En 38:=fJ Tryz.func38
theorem en39:En 39:=fJ Tryz.func39
theorem aZa:En 44:=fJ Tryz.func44
theorem en45:En 45:=fJ Tryz.func45
theorem en49:En 49:=fJ Tryz.func49
theorem en50:En 50:=fJ Tryz.func50
theorem en52:En 52:=fJ Tryz.func52
theorem en56:En 56:=fJ Tryz.func56
theorem aZe:En 57:=fJ Tryz.func57
theorem en58:En 58:=fJ Tryz.func58
theorem en59:En 59:=fJ Tryz.func59
theorem en60:En 60:=fJ Tryz.func60
theorem aYe:En 62:=fJ Tryz.func62
theorem en63:En 63:=fJ Tryz.func63
theorem en68:En 68:=fJ Tryz.func68
theorem en71:En 71:=fJ Tryz.func71
theorem en72:En 72:=fJ Tryz.func72
theorem en73:En 73:=fJ Tryz.func73
theorem en74:En 74:=fJ Tryz.func74
theorem aXc:En 75:=fJ Tryz.func75
theorem en77:En 77:=fJ Tryz.func77
theorem en82:En 82:=fJ Tryz.func82
theorem en86:En 86:=fJ Tryz.func86
theorem en87:En 87:=fJ Tryz.func87
theorem en91:En 91:=fJ Tryz.func91
theorem en92:En 92:=fJ Tryz.func92
theorem en93:En 93:=fJ Tryz.func93
theorem en95:En 95:=fJ Tryz.func95
theorem en98:En 98:=fJ Tryz.func98
theorem en99:En 99:=fJ Tryz.func99
theorem aXd:En 103:=fJ Tryz.func103
theorem aOq:En 104:=fJ Tryz.func104
theorem en105:En 105:=fJ Tryz.func105
theorem en109:En 109:=fJ Tryz.func109
theorem bCh:En 111:=fJ Tryz.func111
theorem bBe:En 121:=fJ Tryz.func121
theorem en127:En 127:=fJ Tryz.func127
theorem aBr:En 128:=fJ Tryz.func128
theorem en133:En 133:=fJ Tryz.func133
theorem en134:En 134:=fJ Tryz.func134
theorem en150:En 150:=fJ Tryz.func150
theorem en151:En 151:=fJ Tryz.func151
theorem bDr:En 157:=fJ Tryz.func157
theorem en158:En 158:=fJ Tryz.func158
theorem en159:En 159:=fJ Tryz.func159
theorem aNa:En 160:=fJ Tryz.func160
theorem en172:En 172:=fJ Tryz.func172
theorem en184:En 184:=fJ Tryz.func184
theorem bBa:En 185:=fJ Tryz.func185
theorem en186:En 186:=fJ Tryz.func186
theorem en229:En 229:=fJ Tryz.func229
theorem en231:En 231:=fJ Tryz.func231
theorem en232:En 232:=fJ Tryz.func232
theorem en233:En 233:=fJ Tryz.func233
theorem aTt:En 234:=fJ Tryz.func234
theorem en236:En 236:=fJ Tryz.func236
theorem en239:En 239:=fJ Tryz.func239
theorem en241:En 241:=fJ Tryz.func241
theorem en243:En 243:=fJ Tryz.func243
theorem en245:En 245:=fJ Tryz.func245
theorem en248:En 248:=fJ Tryz.func248
theorem en250:En 250:=fJ Tryz.func250
theorem en252:En 252:=fJ Tryz.func252
theorem en254:En 254:=fJ Tryz.func254
theorem mixed:Tryz.prog.follows .mixedOrders=true:=by kernel_rfl
theorem Fcuw {b:Int}{r:Bool}(a:Fcu b=some r)(H:Hd O w w S []):
  Rt 72 [.int .u8 b] (vb r) w O S []:=by
 refine CW 21 Tryz.func72 ?_;refine SR<|zB (vb false)<|RM<|bE a λe a f=>sJ H (rg [2,19]) [(2,vb e)] ?_ ?_;refine zD<|zA (.int .u8 b)<|vZ a λn a=>bE a λh a i=>xM 4 [5,6,7,8] [(8,vb h)] (λwl=>Hd O w wl S []) ?_ ?_;refine RJ a (λa=>zA (.int .u8 b)<|aCk a λj a=>pt (vb j) ?_) λa=>?_;cases a;exact jn<|meet ⟨(yE Z yU),H.U []⟩;refine zN<|zN<|pf (vb false) ?_;cases a;exact jn<|meet ⟨(yE Z yU),H.U []⟩;rintro ρ o H;have a:=i;refine bE a λk a l=>xM 8 [9,10,11,12,13,14,15,16] [(16,vb k)] (λwl=>Hd O w wl S []) ?_ ?_;refine RJ a (λa=>zN<|zN<|zN<|zN<|zN<|zN<|pt (vb true) ?_) λa=>?_;cases a;exact jn<|meet ⟨(yE Z yU),H.U []⟩;refine zA (.int .u8 b)<|vZ a λp a=>RJ a (λa=>zA (.int .u8 b)<|aCk a λc a=>pt (vb c)<|pf (vb c) ?_) λa=>?_;cases a;exact jn<|meet ⟨(yE Z yU),H.U []⟩;refine zN<|zN<|pf (vb false)<|pf (vb false) ?_;cases a;exact jn<|meet ⟨(yE Z yU),H.U []⟩;rintro ρ q H;have a:=l;refine RJ a (λa=>zN<|zN<|pt (vb true)<|zB (vb true) ?_) λa=>?_;cases a;exact jn<|mt () (H.U []);refine zA (.int .u8 b)<|fH a λd a=>pf (vb d)<|zB (vb d) ?_;cases a;exact jn<|mt () (H.U []);rintro _ ρ s H;have a:=f;cases a;exact zI<|p1z ⟨Z,H.U []⟩
theorem Fdkw {b:Str}{r:Bool}(a:Fdk b=some r)(H:Hd O w w S []):
  Rt 71 [sb b] (vb r) w O S []:=by
 refine CW 21 Tryz.func71 ?_;refine SR<|zB (vb false)<|RM<|SQ<|SR<|zA (sb b)<|RM<|zJ<|bE a λc a d=>sJ H (rg [4,17]) [(4,vb c)] ?_ ?_;refine SR<|RLb a (xW (s1:=b) (s2:=[112,104,97,115,101]) Z Z) λe a=>zB (vb e)<|RM<|WJ a ?_ ?_<;>intro a;cases a;exact js<|mt () (H.U []);refine SR<|RLb a (xW (s1:=b) (s2:=[109,111,118,101]) Z Z) λf a=>zB (vb f)<|RM<|WJ a ?_ ?_<;>intro a;cases a;exact js<|mt () (H.U []);refine SR<|RLb a (xW (s1:=b) (s2:=[114,117,108,101]) Z Z) λh a=>zB (vb h)<|RM<|WJ a ?_ ?_<;>intro a;cases a;exact js<|mt () (H.U []);refine SR<|RLb a (xW (s1:=b) (s2:=[105,102]) Z Z) λi a=>zB (vb i)<|RM<|WJ a ?_ ?_<;>intro a;cases a;exact js<|mt () (H.U []);refine SR<|RLb a (xW (s1:=b) (s2:=[111,114]) Z Z) λj a=>zB (vb j)<|RM<|WJ a ?_ ?_<;>intro a;cases a;exact js<|mt () (H.U []);refine SR<|RLb a (xW (s1:=b) (s2:=[97,110,100]) Z Z) λk a=>zB (vb k)<|RM<|WJ a ?_ ?_<;>intro a;cases a;exact js<|mt () (H.U []);refine SR<|RLb a (xW (s1:=b) (s2:=[116,114,117,101]) Z Z) λl a=>zB (vb l)<|RM<|WJ a ?_ ?_<;>intro a;cases a;exact js<|mt () (H.U []);refine SR<|RLb a (xW (s1:=b) (s2:=[102,97,108,115,101]) Z Z) λn a=>zB (vb n)<|RM<|WJ a ?_ ?_<;>intro a;cases a;exact js<|mt () (H.U []);refine SR<|RLb a (xW (s1:=b) (s2:=[115,116,101,97,100,121]) Z Z) λo a=>zB (vb o)<|RM<|WJ a ?_ ?_<;>intro a;cases a
 exact js<|mt () (H.U []);refine SR<|RLb a (xW (s1:=b) (s2:=[110,111,116]) Z Z) λp a=>zB (vb p)<|RM<|WJ a ?_ ?_<;>intro a;cases a;exact js<|mt () (H.U []);refine SR<|RLb a (xW (s1:=b) (s2:=[102,111,114]) Z Z) λq a=>zB (vb q)<|RM<|WJ a ?_ ?_<;>intro a;cases a;exact js<|mt () (H.U []);refine SR<|RLb a (xW (s1:=b) (s2:=[119,105,116,104,105,110]) Z Z) λs a=>zB (vb s)<|RM<|WJ a ?_ ?_<;>intro a;cases a;exact js<|mt () (H.U []);refine SR<|RLb a (xW (s1:=b) (s2:=[99,111,117,110,116]) Z Z) λt a=>zB (vb t)<|RM<|WJ a ?_ ?_<;>intro a;cases a;exact js<|mt () (H.U []);refine SR<|RLb a (xW (s1:=b) (s2:=[111,102]) Z Z) λu a=>zB (vb u)<|RM<|WJ a ?_ ?_<;>intro a;cases a;exact js<|mt () (H.U []);refine SR<|RLb a (xW (s1:=b) (s2:=[114,105,115,101,115]) Z Z) λv a=>zB (vb v)<|RM<|WJ a ?_ ?_<;>intro a;cases a;exact js<|mt () (H.U []);refine zD<|RLb a (xW (s1:=b) (s2:=[115,105,110,99,101]) Z Z) λx a=>zB (vb x) ?_;cases a;exact jn<|mt () (H.U []);rintro _ ρ y H;have a:=d;refine WJ a (λa=>SR<|zB (vb true)<|RM ?_) λa=>?_;cases a;exact zI<|zM<|zG<|p1z ⟨Z,H.U []⟩;refine yJ<|zQ<|zF<|KN<|SR<|zB (vb false)<|RM ?_;cases a;exact zI<|p1z ⟨Z,H.U []⟩
theorem aXi {b c d:Int}{r:Bool}(a:Fap b c d=some r)(H:Hd O w w S []):
  Rt 44 [i6 b,i6 c,i6 d] (vb r) w O S []:=by
 refine CW 15 Tryz.func44 ?_;refine SR<|zB (vb false)<|RM<|bE a λf a h=>sJ H (rg [6,9]) [(6,vb f)] ?_ ?_;refine zD<|zA (i6 b)<|zA (i6 c)<|vZ a λi a=>RJ a (λa=>?_) (λa=>?_);refine zA (i6 b)<|zA (i6 d)<|aCk a λe a=>pt (vb e)<|zB (vb e) ?_;cases a;exact jn<|mt () (H.U []);refine zN<|zN<|zN<|pf (vb false)<|zB (vb false) ?_;cases a;exact jn<|mt () (H.U []);rintro _ ρ j H;have a:=h;cases a;exact zI<|p1z ⟨rfl,H.U []⟩
theorem Fasw {b:Str}{r:Bool}(a:Fas b=some r)(H:Hd O w w S []):
  Rt 38 [sb b] (vb r) w O S []:=by
 refine CW 33 Tryz.func38 ?_;refine SR<|zB (vb false)<|RM<|SQ<|bE a λd a e=>sJ H (rg [4,18]) [(21,vb d)] ?_ ?_;refine zD<|zA (sb b)<|RLi a (mX (s1:=b) u9 Z) λA a=>bE a λB f a=>RC aZa (aXi f (H.W [] [])) H λC H=>bM a λD a=>bE a λh a i=>xM 5 [8,9,10,11,12] [(12,vb h)] (λwl=>Hd O w wl S []) ?_ ?_;refine RJ a (λa=>zN<|zN<|zN<|pt (vb true) ?_) λa=>?_;cases a;exact jn<|meet ⟨(yE Z yU),H.U []⟩;refine zA (sb b)<|bE a λ_ j a=>zO (aDa (s1:=b) (q:=0) u9 Z Z j)<|eF a λk a=>pf (vb k) ?_;cases a;exact jn<|meet ⟨(yE Z yU),H.U []⟩;rintro ρ _ H;have a:=i;refine bE a λl a n=>xM 5 [13,14,15,16,17] [(17,vb l)] (λwl=>Hd O w wl S []) ?_ ?_;refine RJ a (λa=>zN<|zN<|zN<|pt (vb true) ?_) λa=>?_;cases a;exact jn<|meet ⟨(yE Z yU),H.U []⟩;refine zA (sb b)<|bE a λ_ o a=>zO (aDa (s1:=b) (q:=0) u9 Z Z o)<|jQ a λp a=>pf (vb p) ?_;cases a;exact jn<|meet ⟨(yE Z yU),H.U []⟩;rintro ρ _ H;have a:=n;refine RJ a (λa=>zN<|zN<|pt (vb true) ?_) λa=>?_;cases a;exact jn<|mt () (H.U []);refine zA (sb b)<|bE a λs t a=>RC en71 (Fdkw t (H.W [] [])) H λ_ H=>pf (vb s) ?_;cases a;exact jn<|mt () (H.U []);rintro _ ρ _ H;have a:=e;refine WJ a (λa=>SR<|zB (vb false)<|RM ?_) λa=>?_;cases a;exact zI<|zG<|p1z ⟨Z,H.U []⟩;refine WZ<|jk a H (rg [2,2,22,11]) (λx (y:Unit)=>[]) (λx y=>[]) [] (λ_ a=>?_) ?_;refine SR<|zA (sb b)<|RLi a (mX (s1:=b) u9 Z) λ_ a=>zA (i6 0)<|RM<|zJ<|lo a H (rg [2,2,24,9]) (λx (y:Unit)=>[(24,i6 x)]) (λx y=>[]) [] () (H.U []) ?_
 clear H a;rintro N c _ ρ P H a;refine SR<|eF a λQ a=>RM<|SQ<|WJ a (λa=>WZ<|SQ<|zJ<|SR<|zA (i6 c)<|zB (i6 c)<|RM<|SR<|zA (sb b)<|zA (i6 c)<|bE a λ_ u a=>zO (aDa (s1:=b) (q:=c) u9 Z Z u)<|bE a λT v a=>RC en72 (Fcuw v (H.W [] [])) H λU H=>bM a λV a=>RM<|WJ a (λa=>SR<|zB (vb false)<|RM ?_) λa=>?_) λa=>?_;cases a;exact zI<|zM<|zG<|zG<|zM<|zG<|p1z ⟨Z,H.U []⟩;exact yJ<|zQ<|zF<|KN<|zD<|eG a λz a=>zA (i6 z)<|jn<|me a () (H.U []);exact yB<|zT<|zT<|zU<|zF<|me a () (H.U []);rintro _ _ ρ X H a;refine SR<|zB (vb true)<|RM ?_;cases a;exact zI<|p1z ⟨Z,H.U []⟩
theorem Fajw {e:List Str}{c:Str}{d:Value}{r:Int}(a:Faj e c=some r)(H:Hd O w w S [fM d e]):
  Rt 73 [d,sb c] (i6 r) w O S []:=by
 refine CW 19 Tryz.func73 ?_;refine SR<|zB (i6 0)<|RM<|jk a H (rg [4,15]) (λx (y:Unit)=>[]) (λx y=>[]) [] (λj a=>?_) ?_;refine SR<|zA d<|ln a (H.im 0 Z) u22 λk a=>zA (i6 0)<|RM<|zJ<|lo a H (rg [4,2,8,11]) (λx (y:Unit)=>[(8,i6 x)]) (λx y=>[]) [0] () (H.U [0]) ?_;clear H a;rintro l b _ ρ n H a;have H:=un1 H;refine SR<|eF a λo a=>RM<|SQ<|WJ a (λa=>WZ<|SQ<|zJ<|SR<|zA (i6 b)<|zB (i6 b)<|RM<|SR<|zA (sb c)<|zA d<|zA (i6 b)<|bE a λf h a=>rea H (H.im 0 Z) (sb f) h u22 sz9 dC λp q H=>RLb a (xW (s1:=c) (s2:=f) Z Z) λs a=>RM<|WJ a (λa=>SR<|zA (i6 b)<|zB (i6 b)<|RM ?_) λa=>?_) λa=>?_;cases a;exact zI<|zM<|zG<|zG<|zM<|zG<|p1z ⟨Z,H.U []⟩;exact yJ<|zQ<|zF<|KN<|zD<|eG a λi a=>zA (i6 i)<|jn<|me a () (H.U [0]);exact yB<|zT<|zT<|zU<|zF<|me a () (H.U []);rintro _ _ ρ t H a;refine SR<|zB (i6 (-1))<|RM ?_;cases a;exact zI<|p1z ⟨Z,H.U []⟩
theorem Fbyw {d:List Str}{b:Str}{c:Value}{r:Bool}(a:Fby d b=some r)(H:Hd O w w S [fM c d]):
  Rt 39 [c,sb b] (vb r) w O S []:=by
 refine CW 9 Tryz.func39 ?_;refine SR<|zB (vb false)<|RM<|SR<|zA c<|zA (sb b)<|bE a λh e a=>RC en73 (Fajw e (H.W [] [0])) H λi H=>vZ a λf a=>zB (vb f)<|RM ?_;cases a;exact zI<|p1z ⟨Z,H.U []⟩
abbrev Ffj (f:Cond->Int->Int->Option (Bool×Int)):Prop:= ∀(p0:Cond) (p1:Int) (p2:Int) (v1:Value) (b3:Nat) (r:Bool×Int) (_:f p0 p1 p2=some r) (O S:List Nat) (w:World) (_:Hd O w w S [.blk b3 [i6 p2] 3,dG v1 p0.Kids]),
  Cl 109 [.agg [i6 p0.Kind,sb p0.Name,sb p0.Other,i6 p0.Op,i6 p0.N,i6 p0.Frames,v1].toArray,i6 p1,gW b3] w λe w'=>e= .returned (vb r.1)/\Hd O w w' S [.blk b3 [i6 r.2] 3]
theorem Fcaw (rfA:Cond->Int->Int->Option (Bool×Int))(rhA:Ffj rfA)(b:Cond)(f j:Int)(i:Value)(d:Nat)(r:Bool×Int)(a:Fca rfA b f j=some r)(O S:List Nat)(w:World)(H:Hd O w w S [.blk d [i6 j] 3,dG i b.Kids]):
  Cl 109 [.agg [i6 b.Kind,sb b.Name,sb b.Other,i6 b.Op,i6 b.N,i6 b.Frames,i].toArray,i6 f,gW d] w λe l=>e= .returned (vb r.1)/\Hd O w l S [.blk d [i6 r.2] 3]:=by
 unfold Fca at a;refine CW 36 Tryz.func109 ?_;refine SR<|xb (yT (cs:=[i6 b.Kind,sb b.Name,sb b.Other,i6 b.Op,i6 b.N,i6 b.Frames,i]) Z H) λ_ _ H=>zB (vb false)<|RM<|SR<|zA (gW d)<|zO (cZ Z)<|Ld fB H 0 0 Z Z<|eG a λn a=>zO (cZ Z)<|xu (yM H 0 Z sz3 Z (v:=i6 n) Z Z Z) λP H=>RM<|SQ<|bE a λo a p=>sJ H (rg [14,8]) [(21,vb o)] ?_ ?_;refine zD<|zA (i6 f)<|fH a λQ a=>RJ a (λa=>zN<|zN<|zN<|zN<|pt (vb true) ?_) λa=>?_;cases a;exact jn<|mt () (H.U [0,1,2]);refine zA (gW d)<|zO (cZ Z)<|Ld fB H 0 0 Z Z<|jQ a λq a=>pf (vb q) ?_;cases a;exact jn<|mt () (H.U [0,1,2]);rintro _ ρ _ H;have a:=p;refine WJ a (λa=>SR<|zB (vb false)<|RM ?_) λa=>?_;cases a;exact zI<|zG<|p1z ⟨Z,H.U [0]⟩;refine WZ<|jk a H (rg [6,1,8,1,22,14]) (λx (y:Unit)=>[]) (λx y=>[.blk d [i6 x] 3]) [0] (λT a=>?_) ?_;refine SR<|zO (aJ Z)<|Ld jL H 2 6 Z Z<|ln a (H.im 1 Z) u82 λU a=>zA (i6 0)<|RM<|zJ ?_;unfold Fhs at a;refine lo a H (rg [6,1,8,1,25,11]) (λx (y:Unit)=>[(25,i6 x.1)]) (λx y=>[.blk d [i6 x.2] 3]) [0,2] () (H.U [0,1]) ?_;clear H a;rintro V ⟨s,t⟩ _ ρ X H a;have H:=un2 H;refine SR<|eF a λY a=>RM<|SQ<|WJ a (λa=>WZ<|SQ<|zJ<|SR<|bE a λc k a=>?_) λa=>?_;obtain⟨u,z,_,_,A,B,C,D,E⟩:=xB (H.im 1 Z) k;obtain⟨h,rfl,F⟩:=xU B;have H:=H.fzs [.at u (z+s.toNat*7) _,.sl dB h c.Kids] ⟨⟨C,D,E⟩,F,T1⟩;refine ix u82 eY A k<|zO (yO (zX (cs:=[i6 c.Kind,sb c.Name,sb c.Other,i6 c.Op,i6 c.N,i6 c.Frames,h]) eX Z eY Z (H.im 2 Z).2.2) Z)<|xb (yL pG H) λ_ _ H=>xu (yA (vs:=[i6 c.Kind,sb c.Name,sb c.Other,i6 c.Op,i6 c.N,i6 c.Frames,h]) H 4 Z eY Z Z Z ⟨Z,Z,Z,Z,Z,Z,(xN (H.im 3 Z)),T1⟩ Z) λ_ H=>RM<|SR<|lb H 4 Z eX eY<|zA (i6 f)<|vX a λG a=>zA (gW d) ?_
 obtain⟨⟨af,_⟩,I,a⟩:=zZ a;refine cAz en109 (rhA c G t h d _ I _ _ _ (H.W [0] [3])) λ_ J=>?_;have H:=un5<|H.back [0] [3] Z J;refine bM a λ_ a=>RM<|WJ a (λa=>SR<|zB (vb false)<|RM ?_) λa=>?_;cases a;exact zI<|zM<|zG<|zG<|zM<|zG<|p1z ⟨Z,H.U [4]⟩;exact yJ<|zQ<|zF<|KN<|zD<|eG a λK a=>zA (i6 K)<|jn<|me a () (H.U [4,0]);exact yB<|zT<|zT<|zU<|zF<|me a () (H.U [0]);rintro _ _ ρ _ H a;have H:=un1 H;refine SR<|zB (vb true)<|RM ?_;cases a;exact zI<|p1z ⟨Z,H.U [0]⟩
theorem Fjq:Ffj (Fd1):=by
 have h: ∀n,Ffj (Fau n):=by
  intro n
  induction n with
  |zero=>intro b c d e f r a;cases a
  |succ n ih=>intro b c d e f r a;exact Fcaw (Fau n) ih b c d e f r a
 exact h FU
theorem Faew {b:Int}{r:dY×Bool}(a:Fae b=some r)(H:Hd O w w S []):
  Rt 138 [i6 b] (.tuple #[.agg [vb r.1.name,vb r.1.other,vb r.1.op,vb r.1.n,vb r.1.frames,i6 r.1.least,i6 r.1.most].toArray,vb r.2]) w O S []:=by
 refine CW 41 Tryz.func138 ?_;refine SR<|xb (yL bCx H) λ_ _ H=>zB (vb false)<|RM<|SQ<|SR<|zA (i6 b)<|RM<|zJ<|bE a λc a d=>sJ H [5,6,7] [(5,vb c)] ?_ ?_;refine SR<|fH a λe a=>zB (vb e)<|RM<|WJ a ?_ ?_<;>intro a;cases a;exact js<|mt () (H.U [0]);refine zD<|fH a λf a=>zB (vb f) ?_;cases a;exact jn<|mt () (H.U [0]);rintro _ ρ _ H;have a:=d;refine WJ a (λa=>SR<|zO (yY (cs:=[vb false,vb false,vb false,vb false,vb false,i6 0,i6 0]) bz173)<|xu (yA (vs:=[vb false,vb false,vb false,vb false,vb false,i6 0,i6 0]) H 0 Z nS Z Z Z ⟨Z,Z,Z,Z,Z,Z,Z,T1⟩ Z) λ_ H=>zB (vb true)<|RM ?_) λa=>?_;cases a;exact zI<|zM<|zG<|jY (v1:=vb true) Z Z (yK vJ nS Z (Hbc H 0 Z)) Z ⟨Z,H.U []⟩;refine SR<|fH a λh a=>zB (vb h)<|RM<|WJ a (λa=>SR<|zO (yY (cs:=[vb true,vb false,vb true,vb true,vb false,i6 0,i6 0]) (aUh _ _ _))<|xu (yA (vs:=[vb true,vb false,vb true,vb true,vb false,i6 0,i6 0]) H 0 Z nS Z Z Z ⟨Z,Z,Z,Z,Z,Z,Z,T1⟩ Z) λ_ H=>zB (vb true)<|RM ?_) λa=>?_;cases a;exact zI<|zM<|zG<|jY (v1:=vb true) Z Z (yK vJ nS Z (Hbc H 0 Z)) Z ⟨Z,H.U []⟩;refine SR<|fH a λi a=>zB (vb i)<|RM<|WJ a (λa=>SR<|zO (yY (cs:=[vb true,vb true,vb true,vb false,vb false,i6 0,i6 0]) (aTh _ _ _))<|xu (yA (vs:=[vb true,vb true,vb true,vb false,vb false,i6 0,i6 0]) H 0 Z nS Z Z Z ⟨Z,Z,Z,Z,Z,Z,Z,T1⟩ Z) λ_ H=>zB (vb true)<|RM ?_) λa=>?_
 cases a;exact zI<|zM<|zG<|jY (v1:=vb true) Z Z (yK vJ nS Z (Hbc H 0 Z)) Z ⟨Z,H.U []⟩;refine SR<|fH a λj a=>zB (vb j)<|RM<|WJ a (λa=>SR<|zO (yY (cs:=[vb true,vb false,vb false,vb true,vb true,i6 0,i6 0]) (aUs _ _ _))<|xu (yA (vs:=[vb true,vb false,vb false,vb true,vb true,i6 0,i6 0]) H 0 Z nS Z Z Z ⟨Z,Z,Z,Z,Z,Z,Z,T1⟩ Z) λN H=>zB (vb true)<|RM ?_) λa=>?_;cases a;exact zI<|zM<|zG<|jY (v1:=vb true) Z Z (yK vJ nS Z (Hbc H 0 Z)) Z ⟨Z,H.U []⟩;refine bE a λk a l=>sJ H [18,19,20] [(18,vb k)] ?_ ?_;refine SR<|fH a λo a=>zB (vb o)<|RM<|WJ a ?_ ?_<;>intro a;cases a;exact js<|mt () (H.U [0]);refine zD<|fH a λp a=>zB (vb p) ?_;cases a;exact jn<|mt () (H.U [0]);rintro _ ρ P H;have a:=l;refine WJ a (λa=>SR<|zO (yY (cs:=[vb true,vb false,vb false,vb false,vb false,i6 0,i6 0]) (bt173_0 _))<|xu (yA (vs:=[vb true,vb false,vb false,vb false,vb false,i6 0,i6 0]) H 0 Z nS Z Z Z ⟨Z,Z,Z,Z,Z,Z,Z,T1⟩ Z) λQ H=>zB (vb true)<|RM ?_) λa=>?_;cases a;exact zI<|zM<|zG<|jY (v1:=vb true) Z Z (yK vJ nS Z (Hbc H 0 Z)) Z ⟨Z,H.U []⟩;refine bE a λq a s=>sJ H [22,23,24] [(22,vb q)] ?_ ?_;refine SR<|fH a λt a=>zB (vb t)<|RM<|WJ a ?_ ?_<;>intro a;cases a;exact js<|mt () (H.U [0]);refine zD<|fH a λu a=>zB (vb u) ?_;cases a;exact jn<|mt () (H.U [0]);rintro _ ρ _ H;have a:=s;refine WJ a (λa=>SR<|zO (yY (cs:=[vb false,vb false,vb false,vb false,vb false,i6 1,i6 1]) (aHj _ _))<|xu (yA (vs:=[vb false,vb false,vb false,vb false,vb false,i6 1,i6 1]) H 0 Z nS Z Z Z ⟨Z,Z,Z,Z,Z,Z,Z,T1⟩ Z) λT H=>zB (vb true)<|RM ?_) λa=>?_
 cases a;exact zI<|zM<|zG<|jY (v1:=vb true) Z Z (yK vJ nS Z (Hbc H 0 Z)) Z ⟨Z,H.U []⟩;refine bE a λv a x=>sJ H [26,27,28] [(26,vb v)] ?_ ?_;refine SR<|fH a λy a=>zB (vb y)<|RM<|WJ a ?_ ?_<;>intro a;cases a;exact js<|mt () (H.U [0]);refine zD<|fH a λz a=>zB (vb z) ?_;cases a;exact jn<|mt () (H.U [0]);rintro _ ρ U H;have a:=x;refine WJ a (λa=>SR<|zO (yY (cs:=[vb false,vb false,vb false,vb false,vb false,i6 2,i6 200]) (aHj _ _))<|xu (yA (vs:=[vb false,vb false,vb false,vb false,vb false,i6 2,i6 200]) H 0 Z nS Z Z Z ⟨Z,Z,Z,Z,Z,Z,Z,T1⟩ Z) λV H=>zB (vb true)<|RM ?_) λa=>?_;cases a;exact zI<|zM<|zG<|jY (v1:=vb true) Z Z (yK vJ nS Z (Hbc H 0 Z)) Z ⟨Z,H.U []⟩;refine bE a λA a B=>sJ H [30,31,32] [(30,vb A)] ?_ ?_;refine SR<|fH a λC a=>zB (vb C)<|RM<|WJ a ?_ ?_<;>intro a;cases a;exact js<|mt () (H.U [0]);refine zD<|fH a λD a=>zB (vb D) ?_;cases a;exact jn<|mt () (H.U [0]);rintro _ ρ X H;have a:=B;refine WJ a (λa=>SR<|zO (yY (cs:=[vb false,vb false,vb false,vb false,vb true,i6 1,i6 1]) (aWc _ _ _))<|xu (yA (vs:=[vb false,vb false,vb false,vb false,vb true,i6 1,i6 1]) H 0 Z nS Z Z Z ⟨Z,Z,Z,Z,Z,Z,Z,T1⟩ Z) λY H=>zB (vb true)<|RM ?_) λa=>?_;cases a;exact zI<|zM<|zG<|jY (v1:=vb true) Z Z (yK vJ nS Z (Hbc H 0 Z)) Z ⟨Z,H.U []⟩;refine SR<|fH a λE a=>zB (vb E)<|RM<|WJ a ?_ ?_<;>intro a
 refine SR<|zO (yY (cs:=[vb false,vb false,vb false,vb true,vb true,i6 1,i6 1]) (aNy _ _ _ _))<|xu (yA (vs:=[vb false,vb false,vb false,vb true,vb true,i6 1,i6 1]) H 0 Z nS Z Z Z ⟨Z,Z,Z,Z,Z,Z,Z,T1⟩ Z) λ_ H=>zB (vb true)<|RM ?_;cases a;exact zI<|zM<|zG<|jY (v1:=vb true) Z Z (yK vJ nS Z (Hbc H 0 Z)) Z ⟨Z,H.U []⟩;refine SR<|fH a λF a=>zB (vb F)<|RM<|WJ a (λa=>SR<|zO (yY (cs:=[vb false,vb false,vb false,vb false,vb false,i6 2,i6 2]) (aHj _ _))<|xu (yA (vs:=[vb false,vb false,vb false,vb false,vb false,i6 2,i6 2]) H 0 Z nS Z Z Z ⟨Z,Z,Z,Z,Z,Z,Z,T1⟩ Z) λ_ H=>zB (vb true)<|RM ?_) λa=>?_;cases a;exact zI<|zM<|zG<|jY (v1:=vb true) Z Z (yK vJ nS Z (Hbc H 0 Z)) Z ⟨Z,H.U []⟩;refine yJ<|zQ<|zF<|KN<|SR<|zO (yY (cs:=[vb false,vb false,vb false,vb false,vb false,i6 0,i6 0]) bz173)<|xu (yA (vs:=[vb false,vb false,vb false,vb false,vb false,i6 0,i6 0]) H 0 Z nS Z Z Z ⟨Z,Z,Z,Z,Z,Z,Z,T1⟩ Z) λ_ H=>zB (vb false)<|RM ?_;cases a;exact zI<|jY (v1:=vb false) Z Z (yK vJ nS Z (Hbc H 0 Z)) Z ⟨Z,H.U []⟩
theorem Fa1w {c:Cond}{d:Value}{r:Int}(a:Fa1 c=some r)(H:Hd O w w S [dG d c.Kids]):
  Rt 110 [.agg [i6 c.Kind,sb c.Name,sb c.Other,i6 c.Op,i6 c.N,i6 c.Frames,d].toArray] (i6 r) w O S []:=by
 refine CW 140 Tryz.func110 ?_;refine SR<|xb (yT (cs:=[i6 c.Kind,sb c.Name,sb c.Other,i6 c.Op,i6 c.N,i6 c.Frames,d]) Z H) λe _ H=>zB (i6 0)<|RM<|SR<|zO (bF Z)<|Ld fB H 1 0 Z Z ?_;obtain⟨⟨b,h⟩,u,a⟩:=zZ a;refine RC (fJ Tryz.func138) (Faew u (H.W [] [])) H λ_ H=>zA (.tuple #[.agg [vb b.name,vb b.other,vb b.op,vb b.n,vb b.frames,i6 b.least,i6 b.most].toArray,vb h])<|zO (yC (v:= .agg [vb b.name,vb b.other,vb b.op,vb b.n,vb b.frames,i6 b.least,i6 b.most].toArray) Z Z)<|zO (yC (v:=vb h) Z Z)<|xb (yL bCx H) λf _ H=>xu (yA (vs:=[vb b.name,vb b.other,vb b.op,vb b.n,vb b.frames,i6 b.least,i6 b.most]) H 2 Z nS Z Z Z ⟨Z,Z,Z,Z,Z,Z,Z,T1⟩ Z) λ_ H=>zB (vb h)<|RM<|SQ<|SR<|zA (vb h)<|bM a λ_ a=>RM<|WJ a (λa=>SR<|zB (i6 7)<|RM ?_) λa=>?_;cases a;exact zI<|zG<|p1z ⟨Z,H.U []⟩;refine WZ<|SQ<|bE a λx a y=>sJ H (rg [13,59]) [(71,vb x)] ?_ ?_;refine zD<|zO (bDm Z)<|Ld mZ H 2 0 Z Z<|bM a λ_ a=>bE a λz a A=>xM 5 [16,17,18,19,20] [(20,vb z)] (λwl=>Hd O w wl S [dG d c.Kids,.blk e [i6 c.Kind,sb c.Name,sb c.Other,i6 c.Op,i6 c.N,i6 c.Frames,d] 84,.blk f [vb b.name,vb b.other,vb b.op,vb b.n,vb b.frames,i6 b.least,i6 b.most] 173]) ?_ ?_;refine RJ a (λa=>zO (kR Z)<|Ld dC H 1 1 Z Z<|RLb a (aDj (s1:=c.Name) (s2:=[]) Z Z) λB a=>pt (vb B) ?_) λa=>?_;cases a;exact jn<|meet ⟨(yE Z yU),H.U [0,1,2]⟩;refine zN<|zN<|zN<|pf (vb false) ?_;cases a;exact jn<|meet ⟨(yE Z yU),H.U [0,1,2]⟩
 rintro ρ _ H;have a:=A;refine bE a λC a D=>xM 10 [21,22,23,24,25,26,27,28,29,30] [(30,vb C)] (λwl=>Hd O w wl S [dG d c.Kids,.blk e [i6 c.Kind,sb c.Name,sb c.Other,i6 c.Op,i6 c.N,i6 c.Frames,d] 84,.blk f [vb b.name,vb b.other,vb b.op,vb b.n,vb b.frames,i6 b.least,i6 b.most] 173]) ?_ ?_;refine RJ a (λa=>zN<|zN<|zN<|zN<|zN<|zN<|zN<|zN<|pt (vb true) ?_) λa=>?_;cases a;exact jn<|meet ⟨(yE Z yU),H.U [0,1,2]⟩;refine zO (bBf Z)<|Ld mZ H 2 1 Z Z<|bM a λ_ a=>RJ a (λa=>zO (aBp Z)<|Ld dC H 1 2 Z Z<|RLb a (aDj (s1:=c.Other) (s2:=[]) Z Z) λk a=>pt (vb k)<|pf (vb k) ?_) λa=>?_;cases a;exact jn<|meet ⟨(yE Z yU),H.U [0,1,2]⟩;refine zN<|zN<|zN<|pf (vb false)<|pf (vb false) ?_;cases a;exact jn<|meet ⟨(yE Z yU),H.U [0,1,2]⟩;rintro ρ _ H;have a:=D;refine bE a λE a F=>xM 10 [31,32,33,34,35,36,37,38,39,40] [(40,vb E)] (λwl=>Hd O w wl S [dG d c.Kids,.blk e [i6 c.Kind,sb c.Name,sb c.Other,i6 c.Op,i6 c.N,i6 c.Frames,d] 84,.blk f [vb b.name,vb b.other,vb b.op,vb b.n,vb b.frames,i6 b.least,i6 b.most] 173]) ?_ ?_;refine RJ a (λa=>zN<|zN<|zN<|zN<|zN<|zN<|zN<|zN<|pt (vb true) ?_) λa=>?_;cases a;exact jn<|meet ⟨(yE Z yU),H.U [0,1,2]⟩;refine zO (bCk Z)<|Ld mZ H 2 2 Z Z<|bM a λ_ a=>RJ a (λa=>zO (wW Z)<|Ld fB H 1 3 Z Z<|kD a λl a=>pt (vb l)<|pf (vb l) ?_) λa=>?_;cases a;exact jn<|meet ⟨(yE Z yU),H.U [0,1,2]⟩;refine zN<|zN<|zN<|pf (vb false)<|pf (vb false) ?_
 cases a;exact jn<|meet ⟨(yE Z yU),H.U [0,1,2]⟩;rintro ρ a0 H;have a:=F;refine bE a λG a I=>xM 10 [41,42,43,44,45,46,47,48,49,50] [(50,vb G)] (λwl=>Hd O w wl S [dG d c.Kids,.blk e [i6 c.Kind,sb c.Name,sb c.Other,i6 c.Op,i6 c.N,i6 c.Frames,d] 84,.blk f [vb b.name,vb b.other,vb b.op,vb b.n,vb b.frames,i6 b.least,i6 b.most] 173]) ?_ ?_;refine RJ a (λa=>zN<|zN<|zN<|zN<|zN<|zN<|zN<|zN<|pt (vb true) ?_) λa=>?_;cases a;exact jn<|meet ⟨(yE Z yU),H.U [0,1,2]⟩;refine zO (bBm Z)<|Ld mZ H 2 3 Z Z<|bM a λ_ a=>RJ a (λa=>zO (pJ Z)<|Ld fB H 1 4 Z Z<|kD a λo a=>pt (vb o)<|pf (vb o) ?_) λa=>?_;cases a;exact jn<|meet ⟨(yE Z yU),H.U [0,1,2]⟩;refine zN<|zN<|zN<|pf (vb false)<|pf (vb false) ?_;cases a;exact jn<|meet ⟨(yE Z yU),H.U [0,1,2]⟩;rintro ρ a2 H;have a:=I;refine bE a λJ a K=>xM 10 [51,52,53,54,55,56,57,58,59,60] [(60,vb J)] (λwl=>Hd O w wl S [dG d c.Kids,.blk e [i6 c.Kind,sb c.Name,sb c.Other,i6 c.Op,i6 c.N,i6 c.Frames,d] 84,.blk f [vb b.name,vb b.other,vb b.op,vb b.n,vb b.frames,i6 b.least,i6 b.most] 173]) ?_ ?_;refine RJ a (λa=>zN<|zN<|zN<|zN<|zN<|zN<|zN<|zN<|pt (vb true) ?_) λa=>?_;cases a;exact jn<|meet ⟨(yE Z yU),H.U [0,1,2]⟩;refine zO (bCz Z)<|Ld mZ H 2 4 Z Z<|bM a λa3 a=>RJ a (λa=>zO (jX Z)<|Ld fB H 1 5 Z Z<|kD a λp a=>pt (vb p)<|pf (vb p) ?_) λa=>?_;cases a;exact jn<|meet ⟨(yE Z yU),H.U [0,1,2]⟩;refine zN<|zN<|zN<|pf (vb false)<|pf (vb false) ?_
 cases a;exact jn<|meet ⟨(yE Z yU),H.U [0,1,2]⟩;rintro ρ a4 H;have a:=K;refine RJ a (λa=>zN<|zN<|zN<|zN<|zN<|zN<|zN<|zN<|zN<|pt (vb true) ?_) λa=>?_;cases a;exact jn<|mt () (H.U [0,1,2]);refine zO (aJ Z)<|Ld jL H 1 6 Z Z<|ln a (H.im 0 Z) u82 λa5 a=>zO (fa173_5 Z)<|Ld fB H 2 5 Z Z<|zO (fa173_6 Z)<|Ld fB H 2 6 Z Z<|bE a λ_ L a=>RC aZa (aXi L (H.W [] [])) H λ_ H=>bM a λM a=>pf (vb M) ?_;cases a;exact jn<|mt () (H.U [0,1,2]);rintro _ ρ _ H;have a:=y;refine WJ a (λa=>SR<|zB (i6 2)<|RM ?_) λa=>?_;cases a;exact zI<|zG<|p1z ⟨Z,H.U []⟩;refine WZ<|SQ<|zJ<|bE a λP a Q=>sJ H (rg [72,19]) [(72,vb P)] ?_ ?_;refine zD<|zO (bDm Z)<|Ld mZ H 2 0 Z Z<|bE a λR a T=>xM 6 [75,76,77,78,79,80] [(80,vb R)] (λwl=>Hd O w wl S [dG d c.Kids,.blk e [i6 c.Kind,sb c.Name,sb c.Other,i6 c.Op,i6 c.N,i6 c.Frames,d] 84,.blk f [vb b.name,vb b.other,vb b.op,vb b.n,vb b.frames,i6 b.least,i6 b.most] 173]) ?_ ?_;refine RJ a (λa=>zO (kR Z)<|Ld dC H 1 1 Z Z<|bE a λa9 U a=>RC en38 (Fasw U (H.W [] [])) H λ_ H=>bM a λV a=>pt (vb V) ?_) λa=>?_;cases a;exact jn<|meet ⟨(yE Z yU),H.U [0,1,2]⟩;refine zN<|zN<|zN<|zN<|pf (vb false) ?_;cases a;exact jn<|meet ⟨(yE Z yU),H.U [0,1,2]⟩;rintro ρ _ H;have a:=T;refine RJ a (λa=>zN<|zN<|zN<|zN<|zN<|zN<|zN<|zN<|pt (vb true)<|zB (vb true) ?_) λa=>?_;cases a;exact jn<|mt () (H.U [0,1,2])
 refine zO (bBf Z)<|Ld mZ H 2 1 Z Z<|RJ a (λa=>zO (aBp Z)<|Ld dC H 1 2 Z Z<|bE a λ_ X a=>RC en38 (Fasw X (H.W [] [])) H λ_ H=>bM a λi a=>pt (vb i)<|pf (vb i)<|zB (vb i) ?_) λa=>?_;cases a;exact jn<|mt () (H.U [0,1,2]);refine zN<|zN<|zN<|zN<|pf (vb false)<|pf (vb false)<|zB (vb false) ?_;cases a;exact jn<|mt () (H.U [0,1,2]);rintro _ ρ _ H;have a:=Q;refine WJ a (λa=>SR<|zB (i6 8)<|RM ?_) λa=>?_;cases a;exact zI<|zM<|zG<|p1z ⟨Z,H.U []⟩;refine bE a λY a aa=>sJ H (rg [91,9]) [(91,vb Y)] ?_ ?_;refine zD<|zO (bCk Z)<|Ld mZ H 2 2 Z Z<|RJ a (λa=>zO (wW Z)<|Ld fB H 1 3 Z Z<|bE a λbf ab a=>RC aZa (aXi ab (H.W [] [])) H λ_ H=>bM a λq a=>pt (vb q)<|zB (vb q) ?_) λa=>?_;cases a;exact jn<|mt () (H.U [0,1,2]);refine zN<|zN<|zN<|zN<|pf (vb false)<|zB (vb false) ?_;cases a;exact jn<|mt () (H.U [0,1,2]);rintro _ ρ _ H;have a:=aa;refine WJ a (λa=>SR<|zB (i6 7)<|RM ?_) λa=>?_;cases a;exact zI<|zM<|zG<|p1z ⟨Z,H.U []⟩;refine bE a λac a ad=>sJ H (rg [100,9]) [(100,vb ac)] ?_ ?_;refine zD<|zO (bCz Z)<|Ld mZ H 2 4 Z Z<|RJ a (λa=>zO (jX Z)<|Ld fB H 1 5 Z Z<|bE a λ_ ae a=>RC aZa (aXi ae (H.W [] [])) H λ_ H=>bM a λs a=>pt (vb s)<|zB (vb s) ?_) λa=>?_;cases a;exact jn<|mt () (H.U [0,1,2]);refine zN<|zN<|zN<|zN<|pf (vb false)<|zB (vb false) ?_;cases a;exact jn<|mt () (H.U [0,1,2])
 rintro _ ρ _ H;have a:=ad;refine WJ a (λa=>SR<|zB (i6 9)<|RM ?_) λa=>?_;cases a;exact zI<|zM<|zG<|p1z ⟨Z,H.U []⟩;refine bE a λaf a ag=>sJ H (rg [109,12]) [(109,vb af)] ?_ ?_;refine zD<|zO (bF Z)<|Ld fB H 1 0 Z Z<|fH a λ_ a=>RJ a (λa=>zO (pJ Z)<|Ld fB H 1 4 Z Z<|zO (jX Z)<|Ld fB H 1 5 Z Z<|bE a λ_ ah a=>RC aZa (aXi ah (H.W [] [])) H λ_ H=>bM a λt a=>pt (vb t)<|zB (vb t) ?_) λa=>?_;cases a;exact jn<|mt () (H.U [0,1,2]);refine zN<|zN<|zN<|zN<|zN<|zN<|pf (vb false)<|zB (vb false) ?_;cases a;exact jn<|mt () (H.U [0,1,2]);rintro _ ρ _ H;have a:=ag;refine WJ a (λa=>SR<|zB (i6 9)<|RM ?_) λa=>?_;cases a;exact zI<|zM<|zG<|p1z ⟨Z,H.U []⟩;refine bE a λai a aj=>jo H (rg [121,19]) (λ(g:Unit)=>[(121,vb ai)]) (λg=>[]) [] ?_ ?_;refine zD<|zO (bBm Z)<|Ld mZ H 2 3 Z Z<|bE a λak a al=>xM 6 [124,125,126,127,128,129] [(129,vb ak)] (λwl=>Hd O w wl S [dG d c.Kids,.blk e [i6 c.Kind,sb c.Name,sb c.Other,i6 c.Op,i6 c.N,i6 c.Frames,d] 84,.blk f [vb b.name,vb b.other,vb b.op,vb b.n,vb b.frames,i6 b.least,i6 b.most] 173]) ?_ ?_;refine RJ a (λa=>zO (pJ Z)<|Ld fB H 1 4 Z Z<|bE a λ_ am a=>RC aZa (aXi am (H.W [] [])) H λ_ H=>bM a λan a=>pt (vb an) ?_) λa=>?_;cases a;exact jn<|meet ⟨(yE Z yU),H.U [0,1,2]⟩;refine zN<|zN<|zN<|zN<|pf (vb false) ?_;cases a;exact jn<|meet ⟨(yE Z yU),H.U [0,1,2]⟩;rintro ρ _ H
 have a:=al;refine RJ a (λa=>zN<|zN<|zN<|zN<|zN<|zN<|zN<|zN<|pt (vb true)<|zB (vb true) ?_) λa=>?_;cases a;exact jn<|mt () (H.U []);refine zO (bF Z)<|Ld fB H 1 0 Z Z<|fH a λ_ a=>RJ a (λa=>zO (pJ Z)<|Ld fB H 1 4 Z Z<|eF a λj a=>pt (vb j)<|pf (vb j)<|zB (vb j) ?_) λa=>?_;cases a;exact jn<|mt () (H.U []);refine zN<|zN<|zN<|pf (vb false)<|pf (vb false)<|zB (vb false) ?_;cases a;exact jn<|mt () (H.U []);rintro _ ρ _ H;have a:=aj;refine WJ a (λa=>SR<|zB (i6 9)<|RM ?_) λa=>?_;cases a;exact zI<|zM<|zG<|p1z ⟨Z,H.U []⟩;refine yJ<|zQ<|zF<|KN<|SR<|zB (i6 0)<|RM ?_;cases a;exact zI<|p1z ⟨Z,H.U []⟩
abbrev Fg3 (f:Cond->Option Int):Prop:= ∀(p0:Cond) (v1:Value) (r:Int) (_:f p0=some r) (O S:List Nat) (w:World) (_:Hd O w w S [dG v1 p0.Kids]),
  Cl 75 [.agg [i6 p0.Kind,sb p0.Name,sb p0.Other,i6 p0.Op,i6 p0.N,i6 p0.Frames,v1].toArray,.func (.func 110) #[] #[]] w λe w'=>e= .returned (i6 r)/\Hd O w w' S []
theorem Fdew (rfB:Cond->Option Int)(rhB:Fg3 rfB)(b:Cond)(i:Value)(r:Int)(a:Fde rfB b=some r)(O S:List Nat)(w:World)(H:Hd O w w S [dG i b.Kids]):
  Cl 75 [.agg [i6 b.Kind,sb b.Name,sb b.Other,i6 b.Op,i6 b.N,i6 b.Frames,i].toArray,.func (.func 110) #[] #[]] w λe k=>e= .returned (i6 r)/\Hd O w k S []:=by
 unfold Fde at a;refine CW 29 Tryz.func75 ?_;refine SR<|xb (yT (cs:=[i6 b.Kind,sb b.Name,sb b.Other,i6 b.Op,i6 b.N,i6 b.Frames,i]) Z H) λ_ _ H=>zB (i6 0)<|RM<|SQ<|SR<|zA (.func (.func 110) #[] #[])<|lb H 1 Z eX eY ?_;have l:=H;refine bE a λd n a=>xC Z Z (kU (fJ Tryz.func110) Z Z) (Fa1w n (H.W [] [0])) ?_;rintro _ _ ⟨rfl,o⟩;have H:=l.step (o.only:Only [] _ _);refine⟨_,Z,?_⟩;refine zB (i6 d)<|RM<|SR<|zA (i6 d)<|kD a λ_ a=>RM<|WJ a (λa=>SR<|zA (i6 d)<|zB (i6 d)<|RM ?_) λa=>?_;cases a;exact zI<|zG<|p1z ⟨Z,H.U []⟩;refine WZ<|jk a H (rg [4,1,7,2,15,14]) (λx (y:Unit)=>[]) (λx y=>[]) [] (λ_ a=>?_) ?_;refine SR<|zO (aJ Z)<|Ld jL H 1 6 Z Z<|ln a (H.im 0 Z) u82 λ_ a=>zA (i6 0)<|RM<|zJ ?_;unfold Fhq at a;refine lo a H (rg [4,1,7,2,18,11]) (λx (y:Unit)=>[(18,i6 x)]) (λx y=>[]) [0] () (H.U [0]) ?_;clear H a;rintro _ p _ ρ _ H a;have H:=un1 H;refine SR<|eF a λP a=>RM<|SQ<|WJ a (λa=>WZ<|SQ<|zJ<|SR<|bE a λc j a=>?_) λa=>?_;obtain⟨q,s,Q,_,t,u,v,z,A⟩:=xB (H.im 0 Z) j;obtain⟨f,rfl,B⟩:=xU u;have H:=H.fzs [.at q (s+p.toNat*7) _,.sl dB f c.Kids] ⟨⟨v,z,A⟩,B,T1⟩;refine ix u82 eY t j<|zO (yO (zX (cs:=[i6 c.Kind,sb c.Name,sb c.Other,i6 c.Op,i6 c.N,i6 c.Frames,f]) eX Z eY Z (H.im 1 Z).2.2) Z)<|xb (yL pG H) λT U H=>xu (yA (vs:=[i6 c.Kind,sb c.Name,sb c.Other,i6 c.Op,i6 c.N,i6 c.Frames,f]) H 3 Z eY Z Z Z ⟨Z,Z,Z,Z,Z,Z,(xN (H.im 2 Z)),T1⟩ Z) λV H=>RM<|SR<|lb H 3 Z eX eY<|zA (.func (.func 110) #[] #[])<|bE a λh C a=>RC aXc (rhB c f _ C _ _ _ (H.W [] [2])) H λX H=>zB (i6 h)<|RM<|SR<|zA (i6 h)<|kD a λY a=>RM<|WJ a ?_ ?_<;>intro a
 refine SR<|zA (i6 h)<|zB (i6 h)<|RM ?_;cases a;exact zI<|zM<|zG<|zG<|zM<|zG<|p1z ⟨Z,H.U []⟩;exact yJ<|zQ<|zF<|KN<|zD<|eG a λD a=>zA (i6 D)<|jn<|me a () (H.U [0]);exact yB<|zT<|zT<|zU<|zF<|me a () (H.U []);rintro _ _ ρ _ H a;refine SR<|zB (i6 0)<|RM ?_;cases a;exact zI<|p1z ⟨Z,H.U []⟩
theorem Fjk:Fg3 (Ffn):=by
 have h: ∀n,Fg3 (Fbt n):=by
  intro n
  induction n with
  |zero=>intro b c r a;cases a
  |succ n ih=>intro b c r a;exact Fdew (Fbt n) ih b c r a
 exact h FU
theorem Fciw {a:Cond}{c:Value}{r:Int}(b:Fci a=some r)(H:Hd O w w S [dG c a.Kids]):
  Rt 74 [.agg [i6 a.Kind,sb a.Name,sb a.Other,i6 a.Op,i6 a.N,i6 a.Frames,c].toArray] (i6 r) w O S []:=by
 refine CW 9 Tryz.func74 ?_;refine SR<|xb (yT (cs:=[i6 a.Kind,sb a.Name,sb a.Other,i6 a.Op,i6 a.N,i6 a.Frames,c]) Z H) λj k H=>zB (i6 0)<|RM<|SR<|xb (yL zero3 H) λd l H=>xu (yM H 2 Z sz3 Z (v:=i6 0) Z Z Z) λn H=>RM<|SQ<|SR<|lb H 1 Z eX eY ?_;obtain⟨⟨o,p⟩,e,b⟩:=zZ b;refine cAz en109 (Fjq a 20 0 c d _ e _ _ _ (H.W [2] [0])) λq f=>?_;have H:=un3<|H.back [2] [0] Z f;refine bM b λs b=>RM<|WJ b (λb=>SR<|zB (i6 3)<|RM ?_) λb=>?_;cases b;exact zI<|zG<|p1z ⟨Z,H.U []⟩;refine WZ<|SR<|lb H 1 Z eX eY<|bE b λh i b=>RC aXc (Fjk a c _ i _ _ _ (H.W [] [0])) H λt H=>zB (i6 h)<|RM ?_;cases b;exact zI<|p1z ⟨Z,H.U []⟩
theorem Femw {b:Cond}{c:Value}{r:Int}(a:Fem b=some r)(H:Hd O w w S [dG c b.Kids]):
  Rt 76 [.agg [i6 b.Kind,sb b.Name,sb b.Other,i6 b.Op,i6 b.N,i6 b.Frames,c].toArray] (i6 r) w O S []:=by
 refine CW 11 Tryz.func76 ?_;refine SR<|xb (yT (cs:=[i6 b.Kind,sb b.Name,sb b.Other,i6 b.Op,i6 b.N,i6 b.Frames,c]) Z H) λh i H=>zB (i6 0)<|RM<|SQ<|bE a λd a e=>jo H (rg [3,8]) (λ(g:Unit)=>[(10,vb d)]) (λg=>[]) [] ?_ ?_;refine zD<|zO (bF Z)<|Ld fB H 1 0 Z Z<|fH a λj a=>RJ a (λa=>zN<|zN<|zN<|pt (vb true) ?_) λa=>?_;cases a;exact jn<|mt () (H.U []);refine zO (bF Z)<|Ld fB H 1 0 Z Z<|fH a λf a=>pf (vb f) ?_;cases a;exact jn<|mt () (H.U []);rintro _ ρ k H;have a:=e;refine WJ a (λa=>SR<|zB (i6 2)<|RM ?_) λa=>?_;cases a;exact zI<|zG<|p1z ⟨Z,H.U []⟩;refine WZ<|SR<|zB (i6 0)<|RM ?_;cases a;exact zI<|p1z ⟨Z,H.U []⟩
abbrev Fhy (f:Cond->Option Int):Prop:= ∀(p0:Cond) (v1:Value) (r:Int) (_:f p0=some r) (O S:List Nat) (w:World) (_:Hd O w w S [dG v1 p0.Kids]),
  Cl 75 [.agg [i6 p0.Kind,sb p0.Name,sb p0.Other,i6 p0.Op,i6 p0.N,i6 p0.Frames,v1].toArray,.func (.func 76) #[] #[]] w λe w'=>e= .returned (i6 r)/\Hd O w w' S []
theorem Fckw (rfC:Cond->Option Int)(rhC:Fhy rfC)(b:Cond)(i:Value)(r:Int)(a:Fck rfC b=some r)(O S:List Nat)(w:World)(H:Hd O w w S [dG i b.Kids]):
  Cl 75 [.agg [i6 b.Kind,sb b.Name,sb b.Other,i6 b.Op,i6 b.N,i6 b.Frames,i].toArray,.func (.func 76) #[] #[]] w λe k=>e= .returned (i6 r)/\Hd O w k S []:=by
 unfold Fck at a;refine CW 29 Tryz.func75 ?_;refine SR<|xb (yT (cs:=[i6 b.Kind,sb b.Name,sb b.Other,i6 b.Op,i6 b.N,i6 b.Frames,i]) Z H) λ_ _ H=>zB (i6 0)<|RM<|SQ<|SR<|zA (.func (.func 76) #[] #[])<|lb H 1 Z eX eY ?_;have l:=H;refine bE a λd n a=>xC Z Z (kU (fJ Tryz.func76) Z Z) (Femw n (H.W [] [0])) ?_;rintro _ _ ⟨rfl,o⟩;have H:=l.step (o.only:Only [] _ _);refine⟨_,Z,?_⟩;refine zB (i6 d)<|RM<|SR<|zA (i6 d)<|kD a λ_ a=>RM<|WJ a (λa=>SR<|zA (i6 d)<|zB (i6 d)<|RM ?_) λa=>?_;cases a;exact zI<|zG<|p1z ⟨Z,H.U []⟩;refine WZ<|jk a H (rg [4,1,7,2,15,14]) (λx (y:Unit)=>[]) (λx y=>[]) [] (λ_ a=>?_) ?_;refine SR<|zO (aJ Z)<|Ld jL H 1 6 Z Z<|ln a (H.im 0 Z) u82 λ_ a=>zA (i6 0)<|RM<|zJ ?_;unfold Fgs at a;refine lo a H (rg [4,1,7,2,18,11]) (λx (y:Unit)=>[(18,i6 x)]) (λx y=>[]) [0] () (H.U [0]) ?_;clear H a;rintro _ p _ ρ _ H a;have H:=un1 H;refine SR<|eF a λP a=>RM<|SQ<|WJ a (λa=>WZ<|SQ<|zJ<|SR<|bE a λc j a=>?_) λa=>?_;obtain⟨q,s,Q,_,t,u,v,z,A⟩:=xB (H.im 0 Z) j;obtain⟨f,rfl,B⟩:=xU u;have H:=H.fzs [.at q (s+p.toNat*7) _,.sl dB f c.Kids] ⟨⟨v,z,A⟩,B,T1⟩;refine ix u82 eY t j<|zO (yO (zX (cs:=[i6 c.Kind,sb c.Name,sb c.Other,i6 c.Op,i6 c.N,i6 c.Frames,f]) eX Z eY Z (H.im 1 Z).2.2) Z)<|xb (yL pG H) λT U H=>xu (yA (vs:=[i6 c.Kind,sb c.Name,sb c.Other,i6 c.Op,i6 c.N,i6 c.Frames,f]) H 3 Z eY Z Z Z ⟨Z,Z,Z,Z,Z,Z,(xN (H.im 2 Z)),T1⟩ Z) λV H=>RM<|SR<|lb H 3 Z eX eY<|zA (.func (.func 76) #[] #[])<|bE a λh C a=>RC aXc (rhC c f _ C _ _ _ (H.W [] [2])) H λX H=>zB (i6 h)<|RM<|SR<|zA (i6 h)<|kD a λY a=>RM<|WJ a ?_ ?_<;>intro a
 refine SR<|zA (i6 h)<|zB (i6 h)<|RM ?_;cases a;exact zI<|zM<|zG<|zG<|zM<|zG<|p1z ⟨Z,H.U []⟩;exact yJ<|zQ<|zF<|KN<|zD<|eG a λD a=>zA (i6 D)<|jn<|me a () (H.U [0]);exact yB<|zT<|zT<|zU<|zF<|me a () (H.U []);rintro _ _ ρ _ H a;refine SR<|zB (i6 0)<|RM ?_;cases a;exact zI<|p1z ⟨Z,H.U []⟩
theorem Fjs:Fhy (Fh5):=by
 have h: ∀n,Fhy (Fbw n):=by
  intro n
  induction n with
  |zero=>intro b c r a;cases a
  |succ n ih=>intro b c r a;exact Fckw (Fbw n) ih b c r a
 exact h FU
theorem Fe1w {d:Rules}{b:dH}{f h j c:Value}{r:Int}(a:Fe1 d b=some r)(H:Hd O w w S [fM f d.Phases,dJ h d.Moves,dI j d.Rules,dG c b.When.Kids]):
  Rt 40 [.agg [f,h,j].toArray,.agg [sb b.From,sb b.To,i6 b.When.Kind,sb b.When.Name,sb b.When.Other,i6 b.When.Op,i6 b.When.N,i6 b.When.Frames,c].toArray] (i6 r) w O S []:=by
 refine CW 33 Tryz.func40 ?_;refine SR<|xb (yT (cs:=[f,h,j]) Z H) λC D H=>xb (yT (cs:=[sb b.From,sb b.To,i6 b.When.Kind,sb b.When.Name,sb b.When.Other,i6 b.When.Op,i6 b.When.N,i6 b.When.Frames,c]) Z H) λ_ _ H=>zB (i6 0)<|RM<|jk a H (rg [4,1,6,1,8,16]) (λx (y:Unit)=>[]) (λx y=>[]) [3,5] (λ_ a=>?_) ?_;refine SR<|zO (aQj Z)<|Ld dC H 5 0 Z Z<|zO (aTd Z)<|Ld dC H 5 1 Z Z<|lE a λ_ n a=>?_;subst n;refine xv (kl aYx [b.From,b.To] u22 el9 H) λ_ _ H=>?_;obtain⟨_,_,o⟩:=Sr.len (Sr.xR (H.im 6 Z));refine RLi a (kL u22 o) λP a=>zA (i6 0)<|RM<|zJ<|lo a H (rg [4,1,6,1,14,10]) (λx (y:Unit)=>[(14,i6 x)]) (λx y=>[]) (rg [0,7]) () (H.U (rg [0,7])) ?_;clear H a;rintro Q _ _ ρ T H a;have H:=un7 H;refine SR<|eF a λU a=>RM<|SQ<|WJ a (λa=>WZ<|SQ<|zJ<|SR<|bE a λk l a=>?_) λa=>?_;obtain⟨V,X,p,q,s,t⟩:=aB (H.im 6 Z) l;obtain rfl:p=[sb k]:=s;refine ix u22 sz9 q l<|zO (yD dC Z (Cells.get t (i:=0) Z))<|zB (sb k)<|RM<|SR<|zO (aU Z)<|Ld kS H 4 0 Z Z<|zA (sb k)<|bE a λY u a=>RC en39 (Fbyw u (H.W [] [0])) H λ_ H=>bM a λ_ a=>RM<|WJ a (λa=>SR<|zB (i6 4)<|RM ?_) λa=>?_;cases a;exact zI<|zM<|zG<|zG<|zM<|zG<|p1z ⟨Z,H.U []⟩;exact yJ<|zQ<|zF<|KN<|zD<|eG a λv a=>zA (i6 v)<|jn<|me a () (H.U (rg [0,7]));exact yB<|zT<|zT<|zU<|zF<|me a () (H.U [3,5]);rintro _ _ ρ _ H a;have H:=un2 H;refine SQ<|SR<|zO (aBa Z)<|zO (yO (zX (cs:=[i6 b.When.Kind,sb b.When.Name,sb b.When.Other,i6 b.When.Op,i6 b.When.N,i6 b.When.Frames,c]) eX Z eY Z (Cells.drop (Hbc H 1 Z) 2 7)) Z)<|bE a λe z a=>RC en74 (Fciw z (H.W [] [0])) H λ_ H=>zB (i6 e)<|RM<|SR<|zA (i6 e)<|kD a λ_ a=>RM<|WJ a ?_ ?_<;>intro a
 refine SR<|zA (i6 e)<|zB (i6 e)<|RM ?_;cases a;exact zI<|zG<|p1z ⟨Z,H.U []⟩;refine WZ<|SR<|zO (aBa Z)<|zO (yO (zX (cs:=[i6 b.When.Kind,sb b.When.Name,sb b.When.Other,i6 b.When.Op,i6 b.When.N,i6 b.When.Frames,c]) eX Z eY Z (Cells.drop (Hbc H 1 Z) 2 7)) Z)<|bE a λA B a=>RC aXc (Fjs b.When c _ B _ _ _ (H.W [] [0])) H λaf H=>zB (i6 A)<|RM ?_;cases a;exact zI<|p1z ⟨Z,H.U []⟩
theorem Fftw {a:fU}{b:Str}{c:Value}{d:Nat}{r:Bool}(e:Fft a b=some r)(H:Hd O w w S [.blk d [sb b] 9,dG c a.When.Kids]):
  Rt 79 [.agg [sb a.Name,i6 a.When.Kind,sb a.When.Name,sb a.When.Other,i6 a.When.Op,i6 a.When.N,i6 a.When.Frames,c].toArray,gW d] (vb r) w O S [.blk d [sb b] 9]:=by
 refine CW 8 Tryz.func79 ?_;refine SR<|xb (yT (cs:=[sb a.Name,i6 a.When.Kind,sb a.When.Name,sb a.When.Other,i6 a.When.Op,i6 a.When.N,i6 a.When.Frames,c]) Z H) λh i H=>zB (vb false)<|RM<|SR<|zO (vK Z)<|Ld dC H 2 0 Z Z<|Ld dC H 0 0 Z Z<|RLb e (xW (s1:=a.Name) (s2:=b) Z Z) λf e=>zB (vb f)<|RM ?_;cases e;exact zI<|p1z ⟨Z,H.U [0]⟩
theorem Ffvw {f:List fU}{p1c0:Str}{d:Value}{e:Nat}{r:Int}(a:Ffv f p1c0=some r)(H:Hd O w w S [.blk e [sb p1c0] 9,dI d f]):
  Rt 45 [d,.func (.func 79) #[] #[gW e]] (i6 r) w O S [.blk e [sb p1c0] 9]:=by
 refine CW 19 Tryz.func45 ?_;refine SR<|zB (i6 0)<|RM<|jk a H (rg [4,15]) (λx (y:Unit)=>[]) (λx y=>[]) [0] (λz a=>?_) ?_;refine SR<|zA d<|ln a (H.im 1 Z) u24 λA a=>zA (i6 0)<|RM<|zJ<|lo a H (rg [4,2,8,11]) (λx (y:Unit)=>[(8,i6 x)]) (λx y=>[]) [0,1] () (H.U [0,1]) ?_;clear H a;rintro B c _ ρ C H a;have H:=un2 H;refine SR<|eF a λD a=>RM<|SQ<|WJ a (λa=>WZ<|SQ<|zJ<|SR<|zA (i6 c)<|zB (i6 c)<|RM<|SR<|zA (.func (.func 79) #[] #[gW e])<|zA d<|zA (i6 c)<|bE a λb h a=>?_) λa=>?_;obtain⟨j,k,_,_,l,n,o,p,q⟩:=xB (H.im 1 Z) h;obtain⟨i,rfl,s⟩:=xY n;have H:=H.fzs [.at j (k+c.toNat*8) _,.sl dB i b.When.Kids] ⟨⟨o,p,q⟩,s,T1⟩;refine ix u24 nY l h<|zO (yO (zX (cs:=[sb b.Name,i6 b.When.Kind,sb b.When.Name,sb b.When.Other,i6 b.When.Op,i6 b.When.N,i6 b.When.Frames,i]) aIm Z nY Z (H.im 2 Z).2.2) Z)<|bE a λ_ t a=>xC Z Z (kU (fJ Tryz.func79) Z Z) (Fftw t (H.W [0] [3])) ?_;rintro _ _ ⟨rfl,u⟩;have H:=un4<|H.back [0] [3] Z u;refine⟨_,Z,?_⟩;refine RM<|WJ a (λa=>SR<|zA (i6 c)<|zB (i6 c)<|RM ?_) λa=>?_;cases a;exact zI<|zM<|zG<|zG<|zM<|zG<|p1z ⟨Z,H.U [3]⟩;exact yJ<|zQ<|zF<|KN<|zD<|eG a λv a=>zA (i6 v)<|jn<|me a () (H.U [3,0]);exact yB<|zT<|zT<|zU<|zF<|me a () (H.U [0]);rintro _ _ ρ _ H a;have H:=un1 H;refine SR<|zB (i6 (-1))<|RM ?_;cases a;exact zI<|p1z ⟨Z,H.U [0]⟩
theorem Fhtw {d:List fU}{p1c0:Str}{c:Value}{b:Nat}{r:Bool}(a:Fht d p1c0=some r)(H:Hd O w w S [.blk b [sb p1c0] 9,dI c d]):
  Rt 78 [c,.func (.func 79) #[] #[gW b]] (vb r) w O S [.blk b [sb p1c0] 9]:=by
 refine CW 9 Tryz.func78 ?_;refine SR<|zB (vb false)<|RM<|SR<|zA c<|zA (.func (.func 79) #[] #[gW b])<|bE a λi e a=>cAz en45 (Ffvw e (H.W [0] [1])) λj f=>?_;have H:=un2<|H.back [0] [1] Z f;refine vZ a λh a=>zB (vb h)<|RM ?_;cases a;exact zI<|p1z ⟨Z,H.U [1]⟩
theorem Fc3w {j:Str}{b:Rules}{c:Int}{d e:Nat}{f h i:Value}{r:Bool}(a:Fc3 j b c=some r)(H:Hd O w w S [.blk d [f,h,i] 26,.blk e [i6 c] 3,fM f b.Phases,dJ h b.Moves,dI i b.Rules]):
  Rt 77 [sb j,gW d,gW e] (vb r) w O S [.blk d [f,h,i] 26,.blk e [i6 c] 3]:=by
 refine CW 11 Tryz.func77 ?_;refine SR<|xb (qY Z Z H) λt u H=>zB (vb false)<|RM<|SR<|zO (dS Z)<|Ld kV H 0 2 Z Z<|Ld fB H 1 0 Z Z<|bE a λk l a=>aCa Z Z (sD u24 nY (H.im 4 Z) Z Z l) ?_;rintro n o;have H:=H.fz (.sl dD n k) o;refine zO (dP Z)<|bE a λp q a=>cAz (fJ Tryz.func78) (Fhtw q (H.W [5] [6])) λv s=>?_;have H:=un7<|H.back [5] [6] Z s;refine zB (vb p)<|RM ?_;cases a;exact zI<|p1z ⟨Z,H.U [0,1]⟩
theorem Fedw (b:Cond)(c:Rules)(c1f1:Int)(f:Value)(d:Nat)(h i j:Value)(k e:Nat)(r:Int)(a:Fed b c c1f1=some r)(H:Hd O w w S [.blk d [h,i,j] 26,.blk e [i6 c1f1] 3,.blk k [.func (.func 77) #[] #[gW d,gW e]] 55,dG f b.Kids,fM h c.Phases,dJ i c.Moves,dI j c.Rules]):
  Rt 80 [.agg [i6 b.Kind,sb b.Name,sb b.Other,i6 b.Op,i6 b.N,i6 b.Frames,f].toArray,gW d,gW k] (i6 r) w O S [.blk d [h,i,j] 26,.blk e [i6 c1f1] 3,.blk k [.func (.func 77) #[] #[gW d,gW e]] 55]:=by
 refine CW 28 Tryz.func80 ?_;refine SR<|xb (yT (cs:=[i6 b.Kind,sb b.Name,sb b.Other,i6 b.Op,i6 b.N,i6 b.Frames,f]) Z H) λn y H=>zB (i6 0)<|RM<|SQ<|bE a λo a p=>jo H (rg [5,23]) (λ(g:Unit)=>[(27,vb o)]) (λg=>[]) [0,4,5,6,1,2] ?_ ?_;refine zD<|zO (bF Z)<|Ld fB H 7 0 Z Z<|fH a λz a=>bE a λq a s=>xM 8 [8,9,10,11,12,13,14,15] [(15,vb q)] (λwl=>Hd O w wl S [.blk d [h,i,j] 26,.blk e [i6 c1f1] 3,.blk k [.func (.func 77) #[] #[gW d,gW e]] 55,dG f b.Kids,fM h c.Phases,dJ i c.Moves,dI j c.Rules,.blk n [i6 b.Kind,sb b.Name,sb b.Other,i6 b.Op,i6 b.N,i6 b.Frames,f] 84]) ?_ ?_;refine RJ a (λa=>zO (aU Z)<|Ld kS H 0 0 Z Z<|zO (kR Z)<|Ld dC H 7 1 Z Z<|bE a λA t a=>RC en39 (Fbyw t (H.W [] [4])) H λB H=>bM a λu a=>pt (vb u) ?_) λa=>?_;cases a;exact jn<|meet ⟨(yE Z yU),H.U (rg [0,8])⟩;refine zN<|zN<|zN<|zN<|zN<|zN<|pf (vb false) ?_;cases a;exact jn<|meet ⟨(yE Z yU),H.U (rg [0,8])⟩;rintro ρ C H;have a:=s;refine RJ a (λa=>zN<|zN<|zN<|zN<|zN<|zN<|zN<|zN<|zN<|zN<|pt (vb true) ?_) λa=>?_;cases a;exact jn<|mt () (H.U [0,4,5,6,1,2]);refine zO (bF Z)<|Ld fB H 7 0 Z Z<|fH a λD a=>RJ a (λa=>Ld one55 H 2 0 Z Z<|zO (kR Z)<|Ld dC H 7 1 Z Z<|bE a λ_ v a=>xC Z Z (kU en77 Z Z) (Fc3w v (H.W [0,1] [4,5,6])) ?_) λa=>?_;rintro _ _ ⟨rfl,x⟩;have H:=un8<|H.back [0,1] [4,5,6] Z x;refine⟨_,Z,?_⟩;refine bM a λl a=>pt (vb l)<|pf (vb l) ?_
 cases a;exact jn<|mt () (H.U [6,2,3,4,7,0]);refine zN<|zN<|zN<|zN<|zN<|pf (vb false)<|pf (vb false) ?_;cases a;exact jn<|mt () (H.U [0,4,5,6,1,2]);rintro _ ρ _ H;have H:=un6 H;have a:=p;refine WJ a (λa=>SR<|zB (i6 4)<|RM ?_) λa=>?_;cases a;exact zI<|zG<|p1z ⟨Z,H.U [0,4,5]⟩;refine WZ<|SR<|zB (i6 0)<|RM ?_;cases a;exact zI<|p1z ⟨Z,H.U [0,4,5]⟩
abbrev Fha (f:Cond->Rules->Int->Option Int):Prop:= ∀(p0:Cond) (p1c0:Rules) (p1c1f1:Int) (v1:Value) (b3:Nat) (v4:Value) (v5:Value) (v6:Value) (b11:Nat) (b13:Nat) (r:Int) (_:f p0 p1c0 p1c1f1=some r) (O S:List Nat) (w:World) (_:Hd O w w S [.blk b3 [v4,v5,v6] 26,.blk b13 [i6 p1c1f1] 3,.blk b11 [.func (.func 77) #[] #[gW b3,gW b13]] 55,dG v1 p0.Kids,fM v4 p1c0.Phases,dJ v5 p1c0.Moves,dI v6 p1c0.Rules]),
  Cl 75 [.agg [i6 p0.Kind,sb p0.Name,sb p0.Other,i6 p0.Op,i6 p0.N,i6 p0.Frames,v1].toArray,.func (.func 80) #[] #[gW b3,gW b11]] w λe w'=>e= .returned (i6 r)/\Hd O w w' S [.blk b3 [v4,v5,v6] 26,.blk b13 [i6 p1c1f1] 3,.blk b11 [.func (.func 77) #[] #[gW b3,gW b13]] 55]
end Go.Proofs.YtibkjjklfhfipadGreatDoor.L
