/- Walks that the claim stands on; no condition beyond those stated. -/
import Derived.Test.YthgccglopkgghaaGreatDoorUP
import Derived.Test.YthgccglopkgghaaGreatDoorXVq
namespace Go.Proofs.YthgccglopkgghaaGreatDoor.L
open Go.RowKit Go.OB Go.Lf
set_option maxRecDepth 100000
set_option maxHeartbeats 4000000
abbrev vb:=Value.bool
theorem T1:True:=trivial
theorem Z {α:Sort _}{a:α}:a=a:=rfl
variable {O S:List Nat}{w:World}
abbrev En (f:FuncId):Prop:=Go.OB.Enters Tryz.prog f
theorem RN {P:Program}{N:Nat}{ops:Array Oper}{y:Code}{K:Env->World->Prop}{Q Q':Exit->Env->World->Prop}{ρ:Env}{w:World}(h: ∀ρ w,WP P N y Q ρ w->K ρ w)(n:WP P N y Q ρ w):RL P N ops (aV K Q') [] ρ w:=yH (zK (h _ _ n))
theorem CW {P:Program}{f:FuncId}{fn:Func}{c:Code}{args:List Value}{w:World}{R:Ending->World->Prop}(N:Nat)(hf:P.funcs[f]? =some fn)(h:WP P N c (mO P fn.results R) (aAb args) w)(hb:fn.body=some c:=by exact rfl)(hN:fn.ntmps=N:=by exact rfl)(hl:Nat.ble args.length N=true:=by exact rfl):Calls P f args.toArray w R:=aO N hf hb hN hl h
theorem mt {W:List Nat}{ρ ρ':Env}{G:Type}{S:G->List (Nat×Value)}{B:G->Prop}(g:G)(h:B g)(hs:Sl ρ' (S g):=by repeat (first |exact yJ|refine yD rfl ?_))(hf:Fr W ρ ρ':=by repeat' (first |with_reducible exact aAg|refine aIu rfl ?_|refine aEq rfl rfl ?_)):Fr W ρ ρ'/\ ∃g,Sl ρ' (S g)/\B g:=⟨hf,g,hs,h⟩
def rg:List Nat->List Nat
 |a::n::l=>List.range' a n++rg l
 |_=>[]
section
variable {P:Program}{N:Nat}{ops:Array Oper}{Q Q':Exit->Env->World->Prop}{rest:List Oper}{ρ:Env}{w:World}{d:Nat}{op:Op}{ty:TypeId}{pos:String}{af:Array Edge}{gd:Option (Nat×Bool)}
theorem RLb {β:Type}{b:Bool}{k:Bool->Option β}{r:β}(a:gU b k=some r)(hd:Do P ⟨some d,op,ty,pos,af,gd⟩ ρ w (vb b) w)(n: ∀x,k x=some r->RL P N ops Q rest (upd ρ d (vb x)) w)(hw:fF N ops ρ ⟨some d,op,ty,pos,af,gd⟩=true:=by exact rfl)(c:Nat.blt d N=true:=by exact rfl):RL P N ops Q (⟨some d,op,ty,pos,af,gd⟩::rest) ρ w:=yM hw c hd (n b a)
theorem RLi {β:Type}{b:Int}{kk:IntKind}{k:Int->Option β}{r:β}(a:gU b k=some r)(hd:Do P ⟨some d,op,ty,pos,af,gd⟩ ρ w (.int kk b) w)(n: ∀x,k x=some r->RL P N ops Q rest (upd ρ d (.int kk x)) w)(hw:fF N ops ρ ⟨some d,op,ty,pos,af,gd⟩=true:=by exact rfl)(c:Nat.blt d N=true:=by exact rfl):RL P N ops Q (⟨some d,op,ty,pos,af,gd⟩::rest) ρ w:=yM hw c hd (n b a)
theorem WI {β:Type}{b:Bool}{x y:Option β}{r:β}{c:Operand}{s t:Code}(a:gV b x y=some r)(hc:ev ρ c=vb b)(ht:x=some r->WP P N s Q ρ w)(hf:y=some r->WP P N t Q ρ w):WP P N (.cond c s t) Q ρ w:=mX hc (λc=>ht (wO c a)) (λc=>hf (wQ c a))
theorem RI {β:Type}{b:Bool}{x y:Option β}{r:β}{z:Operand}(a:gV b x y=some r)(hx:ev ρ z=vb b)(ht:x=some r->RL P N ops Q rest (upd ρ d (vb true)) w)(hf:y=some r->RL P N ops Q rest (upd ρ d (vb false)) w)(hw:fF N ops ρ ⟨some d,.move z,ty,pos,af,gd⟩=true:=by exact rfl)(e:Nat.blt d N=true:=by exact rfl):RL P N ops Q (⟨some d,.move z,ty,pos,af,gd⟩::rest) ρ w:=wP hw e hx (λc=>ht (wO c a)) (λc=>hf (wQ c a))
theorem RC {f:FuncId}{args:Array Operand}{at_:Array TypeId}{vs:List Value}{v:Value}{O c S:List Nat}{b:World}{l:List Th}(he:Go.OB.Enters P f)(hc:Calls P f vs.toArray w λe a=>e= .returned v/\Hd c w a [] [])(H:Hd O b w S l)(k: ∀a,Hd O b a S l->RL P N ops Q rest (upd ρ d v) a)(ha:args.toList.map (ev ρ)=vs:=by exact rfl)(hw:fF N ops ρ ⟨some d,.call {callee:= .value (.func f),args:=args,argTypes:=at_},ty,pos,af,gd⟩=true:=by exact rfl)(g:Nat.blt d N=true:=by exact rfl):RL P N ops Q (⟨some d,.call {callee:= .value (.func f),args:=args,argTypes:=at_},ty,pos,af,gd⟩::rest) ρ w:=by
 refine eP hw g (zW he ha) hc ?_;rintro _ a ⟨rfl,G⟩;exact⟨_,rfl,k _ (H.step G.only)⟩
end
section
variable {P:Program}{N:Nat}{ops:Array Oper}{Q Q':Exit->Env->World->Prop}{rest:List Oper}{ρ:Env}{w:World}{d:Nat}{t u ty:TypeId}{x y:Operand}{pos:String}{af:Array Edge}{g:Option (Nat×Bool)}
def KK (P:Program)(N:Nat)(y:Code)(Q:Exit->Env->World->Prop):Env->World->Prop:=WP P N y Q
theorem SQ {x y:Code}(h:WP P N x (aV (KK P N y Q) Q) ρ w):WP P N (.seq x y) Q ρ w:=aIw h λ_ _ h=>h
theorem SR {id:Nat}{l:List Oper}{y:Code}(h:RL P N l.toArray (aV (KK P N y Q) Q) l ρ w):WP P N (.seq (.region id l.toArray false) y) Q ρ w:=SQ (zF h)
theorem RM {y:Code}(n:WP P N y Q ρ w):RL P N ops (aV (KK P N y Q) Q') [] ρ w:=yH (zK n)
theorem WZ {y:Code}(n:WP P N y Q ρ w):WP P N .skip (aV (KK P N y Q) Q') ρ w:=yN (zK n)
theorem KN {y:Code}(n:WP P N y Q ρ w):KK P N y Q ρ w:=n
theorem jn {K:Env->World->Prop}(n:K ρ w):RL P N ops (aV K Q') [] ρ w:=yH (zK n)
theorem js {K:Env->World->Prop}(n:K ρ w):WP P N .skip (aV K Q') ρ w:=yN (zK n)
theorem dV {a b:Int}{kk:IntKind}{β:Type}{k:Bool->Option β}{r:β}(c:gU (decide (a<b)) k=some r)(n: ∀x,k x=some r->RL P N ops Q rest (upd ρ d (vb x)) w)(hx:ev ρ x= .int kk a:=by exact rfl)(hy:ev ρ y= .int kk b:=by exact rfl)(hw:fF N ops ρ ⟨some d,.binOp .lss t x y u,ty,pos,af,g⟩=true:=by exact rfl)(e:Nat.blt d N=true:=by exact rfl):RL P N ops Q (⟨some d,.binOp .lss t x y u,ty,pos,af,g⟩::rest) ρ w:=RLb c (nS hx hy) n hw e
theorem aCq {a b:Int}{kk:IntKind}{β:Type}{k:Bool->Option β}{r:β}(c:gU (decide (a<=b)) k=some r)(n: ∀x,k x=some r->RL P N ops Q rest (upd ρ d (vb x)) w)(hx:ev ρ x= .int kk a:=by exact rfl)(hy:ev ρ y= .int kk b:=by exact rfl)(hw:fF N ops ρ ⟨some d,.binOp .leq t x y u,ty,pos,af,g⟩=true:=by exact rfl)(e:Nat.blt d N=true:=by exact rfl):RL P N ops Q (⟨some d,.binOp .leq t x y u,ty,pos,af,g⟩::rest) ρ w:=RLb c (aDx hx hy) n hw e
theorem rM {a b:Int}{kk:IntKind}{β:Type}{k:Bool->Option β}{r:β}(c:gU (decide (b<a)) k=some r)(n: ∀x,k x=some r->RL P N ops Q rest (upd ρ d (vb x)) w)(hx:ev ρ x= .int kk a:=by exact rfl)(hy:ev ρ y= .int kk b:=by exact rfl)(hw:fF N ops ρ ⟨some d,.binOp .gtr t x y u,ty,pos,af,g⟩=true:=by exact rfl)(e:Nat.blt d N=true:=by exact rfl):RL P N ops Q (⟨some d,.binOp .gtr t x y u,ty,pos,af,g⟩::rest) ρ w:=RLb c (Do_gtr hx hy) n hw e
theorem wU {a b:Int}{kk:IntKind}{β:Type}{k:Bool->Option β}{r:β}(c:gU (decide (b<=a)) k=some r)(n: ∀x,k x=some r->RL P N ops Q rest (upd ρ d (vb x)) w)(hx:ev ρ x= .int kk a:=by exact rfl)(hy:ev ρ y= .int kk b:=by exact rfl)(hw:fF N ops ρ ⟨some d,.binOp .geq t x y u,ty,pos,af,g⟩=true:=by exact rfl)(e:Nat.blt d N=true:=by exact rfl):RL P N ops Q (⟨some d,.binOp .geq t x y u,ty,pos,af,g⟩::rest) ρ w:=RLb c (aJc hx hy) n hw e
theorem fP {a b:Int}{kk:IntKind}{β:Type}{k:Bool->Option β}{r:β}(c:gU (decide (a=b)) k=some r)(n: ∀x,k x=some r->RL P N ops Q rest (upd ρ d (vb x)) w)(hx:ev ρ x= .int kk a:=by exact rfl)(hy:ev ρ y= .int kk b:=by exact rfl)(hw:fF N ops ρ ⟨some d,.binOp .eql t x y u,ty,pos,af,g⟩=true:=by exact rfl)(e:Nat.blt d N=true:=by exact rfl):RL P N ops Q (⟨some d,.binOp .eql t x y u,ty,pos,af,g⟩::rest) ρ w:=RLb c (aEx hx hy) n hw e
theorem aS {a b:Int}{kk:IntKind}{β:Type}{k:Bool->Option β}{r:β}(c:gU (decide (a≠b)) k=some r)(n: ∀x,k x=some r->RL P N ops Q rest (upd ρ d (vb x)) w)(hx:ev ρ x= .int kk a:=by exact rfl)(hy:ev ρ y= .int kk b:=by exact rfl)(hw:fF N ops ρ ⟨some d,.binOp .neq t x y u,ty,pos,af,g⟩=true:=by exact rfl)(e:Nat.blt d N=true:=by exact rfl):RL P N ops Q (⟨some d,.binOp .neq t x y u,ty,pos,af,g⟩::rest) ρ w:=RLb c (Do_neq hx hy) n hw e
theorem dZ {a b:Int}{kk:IntKind}{β:Type}{k:Int->Option β}{r:β}(c:gU (kk.wrap (a+b)) k=some r)(n: ∀x,k x=some r->RL P N ops Q rest (upd ρ d (.int kk x)) w)(hx:ev ρ x= .int kk a:=by exact rfl)(hy:ev ρ y= .int kk b:=by exact rfl)(hw:fF N ops ρ ⟨some d,.binOp .add t x y u,ty,pos,af,g⟩=true:=by exact rfl)(e:Nat.blt d N=true:=by exact rfl):RL P N ops Q (⟨some d,.binOp .add t x y u,ty,pos,af,g⟩::rest) ρ w:=RLi c (qU hx hy rfl) n hw e
theorem Lsub {a b:Int}{kk:IntKind}{β:Type}{k:Int->Option β}{r:β}(c:gU (kk.wrap (a-b)) k=some r)(n: ∀x,k x=some r->RL P N ops Q rest (upd ρ d (.int kk x)) w)(hx:ev ρ x= .int kk a:=by exact rfl)(hy:ev ρ y= .int kk b:=by exact rfl)(hw:fF N ops ρ ⟨some d,.binOp .sub t x y u,ty,pos,af,g⟩=true:=by exact rfl)(e:Nat.blt d N=true:=by exact rfl):RL P N ops Q (⟨some d,.binOp .sub t x y u,ty,pos,af,g⟩::rest) ρ w:=RLi c (aIo hx hy rfl) n hw e
theorem sJ {x y:Code}{O S:List Nat}{a b:World}{T:List Th}(_:Hd O a b S T)(W:List Nat)(l:List (Nat×Value))(h:WP P N x (aV (λρ' c=>Fr W ρ ρ'/\ ∃g:Unit,Sl ρ' ((λ_=>l) g)/\(λ_ wl=>Hd O a wl S T) g c) Q) ρ w)(k: ∀(_:Unit) ρ₁ w,Hd O a w S T->WP P N y Q (over ρ ρ₁ W l) w):WP P N (.seq x y) Q ρ w:=aEh W (λ_:Unit=>l) (λ_ wl=>Hd O a wl S T) h k
theorem bE {α β:Type}{p:Prop}{x:Option α}{f:α->Option β}{r:β}(h:gI x f=some r)(k: ∀y,x=some y->f y=some r->p):p:=(yA h).elim λy q=>k y q.1 q.2
theorem lE {α β:Type}{p:Prop}{x:α}{f:α->Option β}{r:β}(h:gU x f=some r)(k: ∀y,x=y->f y=some r->p):p:=(tN h).elim λy q=>k y q.1 q.2
theorem XQ {I:World->Prop}{κ:List MxM.Kd}{K:MxM.Mm->Env->World->Prop}{k:Nat}{M:MxM.Mm}{σ:List Nat}{v:Value}{op:Op}(h: ∀{a},Do P ⟨some d,op,ty,pos,af,g⟩ ρ a v a)(n:MxM.XL P I N ops κ K M σ rest (upd ρ d v) w)(hk:MxM.kdOf κ k= .pure:=by exact rfl)(hw:fF N ops ρ ⟨some d,op,ty,pos,af,g⟩=true:=by exact rfl)(b:Nat.blt d N=true:=by exact rfl):MxM.XL P I N ops κ K M (k::σ) (⟨some d,op,ty,pos,af,g⟩::rest) ρ w:=MxM.XL_pure hk hw b (λ_ _=>h) n
theorem aB {b:Bool}{β:Type}{k:Bool->Option β}{r:β}(a:gU (!b) k=some r)(n: ∀x,k x=some r->RL P N ops Q rest (upd ρ d (vb x)) w)(hx:ev ρ x=vb b:=by exact rfl)(hw:fF N ops ρ ⟨some d,.unOp .not t x,ty,pos,af,g⟩=true:=by exact rfl)(c:Nat.blt d N=true:=by exact rfl):RL P N ops Q (⟨some d,.unOp .not t x,ty,pos,af,g⟩::rest) ρ w:=RLb a (aBi hx) n hw c
theorem pt (v:Value){z:Operand}(n:RL P N ops Q rest (upd ρ d v) w)(hx:ev ρ x=vb true:=by exact rfl)(hy:ev ρ y=v:=by exact rfl)(hw:fF N ops ρ ⟨some d,.pick x y z,ty,pos,af,g⟩=true:=by exact rfl)(a:Nat.blt d N=true:=by exact rfl):RL P N ops Q (⟨some d,.pick x y z,ty,pos,af,g⟩::rest) ρ w:=yM hw a (pF hx hy) n
theorem pf (v:Value){z:Operand}(n:RL P N ops Q rest (upd ρ d v) w)(hx:ev ρ x=vb false:=by exact rfl)(hz:ev ρ z=v:=by exact rfl)(hw:fF N ops ρ ⟨some d,.pick x y z,ty,pos,af,g⟩=true:=by exact rfl)(a:Nat.blt d N=true:=by exact rfl):RL P N ops Q (⟨some d,.pick x y z,ty,pos,af,g⟩::rest) ρ w:=yM hw a (mF hx hz) n
theorem ix {α:Type}{L:List α}{i:Int}{z:α}{e:TypeId}{b o s c:Nat}{kk:IntKind}(hu:P.underlying t=some (.slice e))(hs:Sz P e s)(hx:ev ρ x= .slice (some ⟨b,o,none⟩) L.length c)(h:at' L i=some z)(n:RL P N ops Q rest (upd ρ d (.pointer (some ⟨b,o+i.toNat*s,none⟩))) w)(hy:ev ρ y= .int kk i:=by exact rfl)(hw:fF N ops ρ ⟨some d,.indexAddr t x y,ty,pos,af,g⟩=true:=by exact rfl)(a:Nat.blt d N=true:=by exact rfl):RL P N ops Q (⟨some d,.indexAddr t x y,ty,pos,af,g⟩::rest) ρ w:=yM hw a (kM hu hs hx hy (xB h).1 (xB h).2.1 rfl rfl) n
theorem lb {O S:List Nat}{a:World}{l:List Th}{b T n:Nat}{cs:List Value}(H:Hd O a w S l)(i:Nat)(h:l[i]? =some (.blk b cs T))(c:Agg P t)(hs:Sz P t n)(k:RL P N ops Q rest (upd ρ d (.agg cs.toArray)) w)(hx:ev ρ x= .pointer (some ⟨b,0,none⟩):=by exact rfl)(hl:cs.length=n:=by exact rfl)(hw:fF N ops ρ ⟨some d,.load t x,ty,pos,af,g⟩=true:=by exact rfl)(e:Nat.blt d N=true:=by exact rfl):RL P N ops Q (⟨some d,.load t x,ty,pos,af,g⟩::rest) ρ w:=yM hw e (yK c hx hs hl (Blk.cells (H.V h))) k
theorem WJ {β:Type}{b:Bool}{x y:Option β}{r:β}{c:Operand}{s t:Code}(a:gV b x y=some r)(ht:x=some r->WP P N s Q ρ w)(hf:y=some r->WP P N t Q ρ w)(hc:ev ρ c=vb b:=by exact rfl):WP P N (.cond c s t) Q ρ w:=WI a hc ht hf
theorem RJ {β:Type}{b:Bool}{x y:Option β}{r:β}{z:Operand}(a:gV b x y=some r)(ht:x=some r->RL P N ops Q rest (upd ρ d (vb true)) w)(hf:y=some r->RL P N ops Q rest (upd ρ d (vb false)) w)(hx:ev ρ z=vb b:=by exact rfl)(hw:fF N ops ρ ⟨some d,.move z,ty,pos,af,g⟩=true:=by exact rfl)(c:Nat.blt d N=true:=by exact rfl):RL P N ops Q (⟨some d,.move z,ty,pos,af,g⟩::rest) ρ w:=RI a hx ht hf hw c
end
abbrev Sm {O S:List Nat}{v w:World}{l:List Th}(_:Hd O v w S l)(w':World)(l':List Th):Prop:=Hd O v w' S l'
section
variable {P:Program}{N:Nat}{Q:Exit->Env->World->Prop}{ρ:Env}{w wo:World}{O S:List Nat}{T:List Th}{X Y β:Type}{r:β}{c x y:Code}
abbrev pj (J:List Nat)(t T:List Th):=Go.Lf.pick J (t++T)
theorem jo (_:Hd O wo w S T)(W:List Nat)(l:Y->List (Nat×Value))(t:Y->List Th)(J:List Nat)(h:WP P N x (aV (λρ' a=>Fr W ρ ρ'/\ ∃z:Y,Sl ρ' (l z)/\Hd O wo a S (pj J (t z) T)) Q) ρ w)(k: ∀z ρ₁ w,Hd O wo w S (pj J (t z) T)->WP P N y Q (over ρ ρ₁ W (l z)) w):WP P N (.seq x y) Q ρ w:=aEh W l (λz wl=>Hd O wo wl S (pj J (t z) T)) h k
theorem jk {b:X->Option β}{m:(X->Option β)->Option β}(a:dP b m=some r)(_:Hd O wo w S T)(W:List Nat)(l:X->Y->List (Nat×Value))(t:X->Y->List Th)(J:List Nat)(h: ∀k:X->Option β,m k=some r->WP P N x (aV (λρ' c=>Fr W ρ ρ'/\ ∃u v,Sl ρ' (l u v)/\Hd O wo c S (pj J (t u v) T)/\k u=some r) Q) ρ w)(k: ∀u v ρ₁ w,Hd O wo w S (pj J (t u v) T)->b u=some r->WP P N y Q (over ρ ρ₁ W (l u v)) w):WP P N (.seq x y) Q ρ w:=by
 refine aEh (G:=X×Y) W (λg=>l g.1 g.2) (λg wl=>Hd O wo wl S (pj J (t g.1 g.2) T)/\b g.1=some r) ((h b a).mono ?_) (λg ρ₁ w hg=>k g.1 g.2 ρ₁ w hg.1 hg.2);intro e ρ' c hq
 cases e<;>first |(obtain⟨d,u,v,f,i,j⟩:=hq;exact⟨d,(u,v),f,i,j⟩)|exact hq
theorem lo {b:(X->Option β)->X->Option β}{d:X}(a:fG b d=some r)(_:Hd O wo w S T)(W:List Nat)(l:X->Y->List (Nat×Value))(t:X->Y->List Th)(J:List Nat)(f:Y)(j:Hd O wo w S (pj J (t d f) T))(n: ∀k u v ρ₁ w,Hd O wo w S (pj J (t u v) T)->b k u=some r->WP P N c (aV (λρ' i=>Fr W ρ ρ'/\ ∃u v,Sl ρ' (l u v)/\Hd O wo i S (pj J (t u v) T)/\k u=some r) Q) (over ρ ρ₁ W (l u v)) w)(hs:Sl ρ (l d f):=by repeat (first |exact yJ|refine yD rfl ?_)):WP P N (.loop c) Q ρ w:=by
 obtain⟨B,m,rfl,o⟩:=aHs a;refine WP_loopS (G:=Nat×X×Y) W (λg=>l g.2.1 g.2.2) (λg wl=>Hd O wo wl S (pj J (t g.2.1 g.2.2) T)/\eU B g.1 g.2.1=some r) (λg=>g.1) (m,d,f) hs ⟨j,o⟩ ?_;rintro⟨m,u,v⟩ ρ₁ w ⟨p,h⟩;obtain⟨m,rfl,h⟩:=loopN_pos h;refine(n (eU B m) u v ρ₁ w p h).mono ?_;intro e ρ' i hq
 cases e<;>first |(obtain⟨q,u',v',s,x,y⟩:=hq;exact⟨q,(m,u',v'),s,⟨x,y⟩,Nat.lt_succ_self _⟩)|exact hq
theorem me {W:List Nat}{ρ ρ':Env}{k:X->Option β}{l:X->Y->List (Nat×Value)}{B:X->Y->Prop}{u:X}(a:k u=some r)(y:Y)(h:B u y)(hs:Sl ρ' (l u y):=by repeat (first |exact yJ|refine yD rfl ?_))(hf:Fr W ρ ρ':=by repeat' (first |with_reducible exact aAg|refine aIu rfl ?_|refine aEq rfl rfl ?_)):Fr W ρ ρ'/\ ∃u v,Sl ρ' (l u v)/\B u v/\k u=some r:=⟨hf,u,y,hs,h,a⟩
end
section
variable {P:Program}{N:Nat}{ops:Array Oper}{Q:Exit->Env->World->Prop}{rest:List Oper}{ρ:Env}{w wo:World}{d dd:Nat}{op:Op}{t e tt uu ty tyy:TypeId}{x y xx:Operand}{pos poo:String}{af aff:Array Edge}{g gg:Option (Nat×Bool)}{f:FuncId}{args:Array Operand}{at_:Array TypeId}{vs:List Value}{O S:List Nat}{l:List Th}{α β A B C D:Type}{r:β}{v:Value}
theorem xu {R:World->Prop}(h: ∃a,DoU P ⟨none,op,ty,pos,af,g⟩ ρ w a/\R a)(k: ∀a,R a->RL P N ops Q rest ρ a)(hw:fF N ops ρ ⟨none,op,ty,pos,af,g⟩=true:=by exact rfl):RL P N ops Q (⟨none,op,ty,pos,af,g⟩::rest) ρ w:=RL_exU hw h k
theorem xv {R:Value->World->Prop}(h: ∃v a,Do P ⟨some d,op,ty,pos,af,g⟩ ρ w v a/\R v a)(k: ∀v a,R v a->RL P N ops Q rest (upd ρ d v) a)(hw:fF N ops ρ ⟨some d,op,ty,pos,af,g⟩=true:=by exact rfl)(hd:Nat.blt d N=true:=by exact rfl):RL P N ops Q (⟨some d,op,ty,pos,af,g⟩::rest) ρ w:=aBh hw hd h k
theorem xb {R:Nat->World->Prop}(h: ∃v a,Do P ⟨some d,op,ty,pos,af,g⟩ ρ w v a/\ ∃b,v= .pointer (some ⟨b,0,none⟩)/\R b a)(k: ∀b a,R b a->RL P N ops Q rest (upd ρ d (.pointer (some ⟨b,0,none⟩))) a)(hw:fF N ops ρ ⟨some d,op,ty,pos,af,g⟩=true:=by exact rfl)(hd:Nat.blt d N=true:=by exact rfl):RL P N ops Q (⟨some d,op,ty,pos,af,g⟩::rest) ρ w:=aBh hw hd h λ_ _ ⟨b,e,q⟩=>e▸k b _ q
theorem ln {L:List α}{rr:Rp α}{F:Nat->Prop}{k:Int->Option β}{b:World}(f:gU (L.length:Int) k=some r)(h:SlF rr F b v L)(hu:P.underlying t=some (.slice e))(n: ∀x,k x=some r->RL P N ops Q rest (upd ρ d (.int .i64 x)) w)(hx:ev ρ x=v:=by exact rfl)(hw:fF N ops ρ ⟨some d,.call {callee:= .builtin .len,args:= #[x],argTypes:= #[t]},ty,pos,af,g⟩=true:=by exact rfl)(i:Nat.blt d N=true:=by exact rfl):RL P N ops Q (⟨some d,.call {callee:= .builtin .len,args:= #[x],argTypes:= #[t]},ty,pos,af,g⟩::rest) ρ w:=by
 obtain⟨a,c,q⟩:=SlF.len h;exact yM hw i (qY hu (hx.trans q)) (n _ f)
theorem rea {L:List α}{a:α}{rr:Rp α}{j:Int}{kk:IntKind}(H:Hd O wo w S l)(k:SlF rr (frees O l) w v L)(z:Value)(h:at' L j=some a)(hu:P.underlying t=some (.slice e))(hs:Sz P e 1)(m:uN P tt)(n: ∀b o,Hd O wo w S (l++[.fz (.at b (o+j.toNat*1) [z])])->RL P N ops Q rest (upd (upd ρ d (.pointer (some ⟨b,o+j.toNat*1,none⟩))) dd z) w)(hc: ∀F w cs,rr.rd F w cs a->cs=[z]:=by exact λ_ _ _ h=>h)(p:rr.sz=1:=by exact rfl)(hx:ev ρ x=v:=by exact rfl)(hy:ev ρ y= .int kk j:=by exact rfl)(r: ∀q,ev (upd ρ d q) xx=q:=by exact λ_=>rfl)(hw:fF N ops ρ ⟨some d,.indexAddr t x y,ty,pos,af,g⟩=true:=by exact rfl)(hd:Nat.blt d N=true:=by exact rfl)(hv: ∀q,fF N ops (upd ρ d q) ⟨some dd,.load tt xx,tyy,poo,aff,gg⟩=true:=by exact λ_=>rfl)(s:Nat.blt dd N=true:=by exact rfl):RL P N ops Q (⟨some d,.indexAddr t x y,ty,pos,af,g⟩::⟨some dd,.load tt xx,tyy,poo,aff,gg⟩::rest) ρ w:=by
 obtain⟨b,o,c,cs,q,u,A,B,f⟩:=bC k h;obtain rfl:=hc _ _ _ u;rw [p]at f;refine yM hw hd (kM hu hs (hx.trans q) hy (xB h).1 (xB h).2.1 rfl rfl) (yM (hv _) s (yP m (r _) (Cells.get f (i:=0) rfl)) ?_);exact n b o (H.fz (.at b (o+j.toNat*1) [z]) ⟨A,B,f⟩)
theorem cAz {V:Value}{R:World->Prop}(he:Go.OB.Enters P f)(hc:Calls P f vs.toArray w λe a=>e= .returned V/\R a)(n: ∀a,R a->RL P N ops Q rest (upd ρ d V) a)(ha:args.toList.map (ev ρ)=vs:=by exact rfl)(hw:fF N ops ρ ⟨some d,.call {callee:= .value (.func f),args:=args,argTypes:=at_},ty,pos,af,g⟩=true:=by exact rfl)(b:Nat.blt d N=true:=by exact rfl):RL P N ops Q (⟨some d,.call {callee:= .value (.func f),args:=args,argTypes:=at_},ty,pos,af,g⟩::rest) ρ w:=eP hw b (zW he ha) hc λ_ _ ⟨e,q⟩=>⟨_,e,n _ q⟩
theorem cAa {V:A->Value}{R:A->World->Prop}(he:Go.OB.Enters P f)(hc:Calls P f vs.toArray w λe b=> ∃a,e= .returned (V a)/\R a b)(n: ∀a b,R a b->RL P N ops Q rest (upd ρ d (V a)) b)(ha:args.toList.map (ev ρ)=vs:=by exact rfl)(hw:fF N ops ρ ⟨some d,.call {callee:= .value (.func f),args:=args,argTypes:=at_},ty,pos,af,g⟩=true:=by exact rfl)(c:Nat.blt d N=true:=by exact rfl):RL P N ops Q (⟨some d,.call {callee:= .value (.func f),args:=args,argTypes:=at_},ty,pos,af,g⟩::rest) ρ w:=eP hw c (zW he ha) hc λ_ _ ⟨a,e,q⟩=>⟨_,e,n a _ q⟩
theorem cAb {V:A->B->Value}{R:A->B->World->Prop}(he:Go.OB.Enters P f)(hc:Calls P f vs.toArray w λe c=> ∃a b,e= .returned (V a b)/\R a b c)(n: ∀a b c,R a b c->RL P N ops Q rest (upd ρ d (V a b)) c)(ha:args.toList.map (ev ρ)=vs:=by exact rfl)(hw:fF N ops ρ ⟨some d,.call {callee:= .value (.func f),args:=args,argTypes:=at_},ty,pos,af,g⟩=true:=by exact rfl)(h:Nat.blt d N=true:=by exact rfl):RL P N ops Q (⟨some d,.call {callee:= .value (.func f),args:=args,argTypes:=at_},ty,pos,af,g⟩::rest) ρ w:=eP hw h (zW he ha) hc λ_ _ ⟨a,b,e,q⟩=>⟨_,e,n a b _ q⟩
theorem cAc {V:A->B->C->Value}{R:A->B->C->World->Prop}(he:Go.OB.Enters P f)(hc:Calls P f vs.toArray w λe h=> ∃a b c,e= .returned (V a b c)/\R a b c h)(n: ∀a b c h,R a b c h->RL P N ops Q rest (upd ρ d (V a b c)) h)(ha:args.toList.map (ev ρ)=vs:=by exact rfl)(hw:fF N ops ρ ⟨some d,.call {callee:= .value (.func f),args:=args,argTypes:=at_},ty,pos,af,g⟩=true:=by exact rfl)(i:Nat.blt d N=true:=by exact rfl):RL P N ops Q (⟨some d,.call {callee:= .value (.func f),args:=args,argTypes:=at_},ty,pos,af,g⟩::rest) ρ w:=eP hw i (zW he ha) hc λ_ _ ⟨a,b,c,e,q⟩=>⟨_,e,n a b c _ q⟩
abbrev KOne (rr:Rp α)(f:α->Value):Prop:=(∀F w c x,rr.rd F w c x↔c=[f x])/\rr.sz=1/\ ∀x,(f x).cells= #[f x]
theorem aCf:KOne Rp.str (λs=> .string (bs s)):=⟨λ_ _ _ _=>Iff.rfl,rfl,λ_=>rfl⟩
theorem kInt:KOne (Rp.int .i64) (.int .i64):=⟨λ_ _ _ _=>Iff.rfl,rfl,λ_=>rfl⟩
theorem kByt:KOne (Rp.int .u8) (.int .u8):=⟨λ_ _ _ _=>Iff.rfl,rfl,λ_=>rfl⟩
theorem ll {rr:Rp α}{f:α->Value}(k:KOne rr f){len bytes:Nat}{zs:List Value}{parts:Array (Nat×Operand)}(xl:List α)(hu:P.underlying t=some (.slice e))(he:El P e rr.sz bytes zs)(H:Hd O wo w S l)(hn:xl.length=len:=by exact rfl)(hp:Nat.blt 0 len=true:=by exact rfl)(hs:Nat.ble len 16777216=true:=by exact rfl)(hi:parts.toList.map Prod.fst=List.range len:=by exact rfl)(hv:parts.toList.map (λp=>ev ρ p.2)=xl.map f:=by exact rfl): ∃v b,Do P ⟨some d,.buildSlice t len parts,ty,pos,af,g⟩ ρ w v b/\gZ w b/\Hd O wo b S (l++[.own rr v e xl]):=by
 obtain⟨hl,a,hc⟩:=k;have j: ∀xl:List α,aJj 1 (xl.map f):=λxl=>by
  induction xl with
  |nil=>exact True.intro
  |cons x xl ih=>exact⟨by rw [hc];rfl,ih⟩
 have m: ∀xl:List α,rows rr (frees O l) w (xl.map f) xl:=λxl=>by
  induction xl with
  |nil=>rfl
  |cons x xl ih=>exact⟨[f x],_,rfl,(hl _ _ _ _).2 rfl,ih⟩
 have n:(xl.map f).flatMap (λv=>v.cells.toList)=xl.map f:=by
  clear hn hv
  induction xl with
  |nil=>rfl
  |cons x xl ih=>rw [List.map_cons,List.flatMap_cons,ih,hc];rfl
 have c:len*rr.sz<=16777216:=by rw [a,Nat.mul_one];exact Nat.le_of_ble_eq_true hs
 have h:0<len*rr.sz:=by rw [a,Nat.mul_one];exact Nat.le_of_ble_eq_true hp
 have i:wE rr.sz len zs (parts.toList.map λp=>(p.1,ev ρ p.2))=some (xl.map f):=dW (by rw [a];decide) hi hv (by rw [a];exact j xl) n;exact uB (Lx_bs hu he c h hn i H (m xl)) (tY hu he c h i)
theorem snd3 {R Y Z:Value->World->Prop}(h: ∃v c,R v c/\Y v c/\Z v c): ∃v c,R v c/\Z v c:=let ⟨v,c,a,_,b⟩:=h;⟨v,c,a,b⟩
theorem kl {rr:Rp α}{f:α->Value}(k:KOne rr f){len bytes:Nat}{zs:List Value}{parts:Array (Nat×Operand)}(xl:List α)(hu:P.underlying t=some (.slice e))(he:El P e rr.sz bytes zs)(H:Hd O wo w S l)(hn:xl.length=len:=by exact rfl)(hp:Nat.blt 0 len=true:=by exact rfl)(hs:Nat.ble len 16777216=true:=by exact rfl)(hi:parts.toList.map Prod.fst=List.range len:=by exact rfl)(hv:parts.toList.map (λp=>ev ρ p.2)=xl.map f:=by exact rfl): ∃v a,Do P ⟨some d,.buildSlice t len parts,ty,pos,af,g⟩ ρ w v a/\Hd O wo a S (l++[.own rr v e xl]):=snd3 (ll k xl hu he H hn hp hs hi hv)
theorem lOne (rr:Rp α)(x:α)(cs:List Value){bytes:Nat}{zs:List Value}{q:Operand}(hu:P.underlying t=some (.slice e))(he:El P e rr.sz bytes zs)(hr:rr.rd (frees O l) w cs x)(H:Hd O wo w S l)(a:cs.length=rr.sz:=by exact rfl)(c:Nat.blt 0 cs.length=true:=by exact rfl)(j:Nat.ble cs.length 16777216=true:=by exact rfl)(hv:ev ρ q= .agg cs.toArray:=by exact rfl): ∃v b,Do P ⟨some d,.buildSlice t 1 #[(0,q)],ty,pos,af,g⟩ ρ w v b/\gZ w b/\Hd O wo b S (l++[.own rr v e [x]]):=by
 have f:1*rr.sz<=16777216:=by rw [<-a,Nat.one_mul];exact Nat.le_of_ble_eq_true j
 have h:0<1*rr.sz:=by rw [<-a,Nat.one_mul];exact Nat.le_of_ble_eq_true c
 have i:wE rr.sz 1 zs ((#[(0,q)]:Array (Nat×Operand)).toList.map λp=>(p.1,ev ρ p.2))=some cs:=dW (vs:=[.agg cs.toArray]) (by rw [<-a];exact Nat.le_of_ble_eq_true c) rfl (by simp [hv]) ⟨by rw [<-a];simp [Value.cells],T1⟩ (by simp [Value.cells]);exact uB (Lx_bs hu he f h rfl i H ⟨cs,[],by simp,hr,rfl⟩) (tY hu he f h i)
theorem qK (rr:Rp α)(x:α)(cs:List Value){bytes:Nat}{zs:List Value}{q:Operand}(hu:P.underlying t=some (.slice e))(he:El P e rr.sz bytes zs)(hr:rr.rd (frees O l) w cs x)(H:Hd O wo w S l)(b:cs.length=rr.sz:=by exact rfl)(c:Nat.blt 0 cs.length=true:=by exact rfl)(f:Nat.ble cs.length 16777216=true:=by exact rfl)(hv:ev ρ q= .agg cs.toArray:=by exact rfl): ∃v a,Do P ⟨some d,.buildSlice t 1 #[(0,q)],ty,pos,af,g⟩ ρ w v a/\Hd O wo a S (l++[.own rr v e [x]]):=snd3 (lOne rr x cs hu he hr H b c f hv)
theorem Xu {κ:List MxM.Kd}{K:MxM.Mm->Env->World->Prop}{k:Nat}{M:MxM.Mm}{σ Si:List Nat}{vo:World}{R:World->World->Prop}(h: ∀b,gZ w b-> ∃a,DoU P ⟨none,op,ty,pos,af,g⟩ ρ b a/\R b a)(n: ∀b a,gZ w b->R b a->MxM.XL P (λa=>Only Si vo a) N ops κ K none σ rest ρ a)(ho: ∀b a,R b a->Only Si vo a:=by exact λ_ _ h=>h.only)(hk:MxM.kdOf κ k= .eff:=by exact rfl)(hw:fF N ops ρ ⟨none,op,ty,pos,af,g⟩=true:=by exact rfl):MxM.XL P (λa=>Only Si vo a) N ops κ K M (k::σ) (⟨none,op,ty,pos,af,g⟩::rest) ρ w:=MxM.XL_exU oS hk hw h λ_ _ s q=>⟨ho _ _ q,n _ _ s q⟩
theorem Xe {κ:List MxM.Kd}{K:MxM.Mm->Env->World->Prop}{k:Nat}{M:MxM.Mm}{σ Si:List Nat}{vo:World}{R:World->Value->World->Prop}(h: ∀b,gZ w b-> ∃v a,Do P ⟨some d,op,ty,pos,af,g⟩ ρ b v a/\R b v a)(n: ∀b v a,gZ w b->R b v a->MxM.XL P (λa=>Only Si vo a) N ops κ K none σ rest (upd ρ d v) a)(ho: ∀b v a,R b v a->Only Si vo a:=by exact λ_ _ _ h=>h.only)(hk:MxM.kdOf κ k= .eff:=by exact rfl)(hw:fF N ops ρ ⟨some d,op,ty,pos,af,g⟩=true:=by exact rfl)(hd:Nat.blt d N=true:=by exact rfl):MxM.XL P (λa=>Only Si vo a) N ops κ K M (k::σ) (⟨some d,op,ty,pos,af,g⟩::rest) ρ w:=MxM.XL_ex oS hk hw hd h λ_ _ _ s q=>⟨ho _ _ _ q,n _ _ _ s q⟩
end
abbrev Cl (f:Nat)(a:List Value)(w:World)(R:Ending->World->Prop):Prop:=Calls Tryz.prog f a.toArray w R
abbrev Rt (f:Nat)(a:List Value)(v:Value)(w:World)(O S:List Nat)(L:List Th):Prop:=Cl f a w λe h=>e= .returned v/\Hd O w h S L
abbrev i6 (n:Int):Value:= .int .i64 n
abbrev sb (s:Str):Value:= .string (bs s)
abbrev f1 {α:Type}(r:Rp α)(v:Value)(l:List α):Th:= .fz (.sl r v l)
theorem Hbc {O S:List Nat}{a w:World}{l:List Th}{b:Nat}{T:TypeId}{cs:List Value}(H:Hd O a w S l)(i:Nat)(h:l[i]? =some (.blk b cs T)):Cells w ⟨b,0,none⟩ cs:=Blk.cells (H.V h)
theorem Hbg {O S:List Nat}{a w:World}{l:List Th}{b:Nat}{T:TypeId}{cs:List Value}{v:Value}(H:Hd O a w S l)(i j:Nat)(h:l[i]? =some (.blk b cs T))(c:cs[j]? =some v):w.cell? ⟨b,0+j,none⟩=some v:=Cells.get (Blk.cells (H.V h)) c
theorem XP {P:Program}{I:World->Prop}{N:Nat}{ops:Array Oper}{κ:List MxM.Kd}{K:MxM.Mm->Env->World->Prop}{k:Nat}{M:MxM.Mm}{σ:List Nat}{rest:List Oper}{ρ:Env}{w:World}{d:Nat}{ty:TypeId}{pos:String}{af:Array Edge}{g:Option (Nat×Bool)}{v:Value}{op:Op}(h: ∀a,I a->Do P ⟨some d,op,ty,pos,af,g⟩ ρ a v a)(n:MxM.XL P I N ops κ K M σ rest (upd ρ d v) w)(hk:MxM.kdOf κ k= .pure:=by exact rfl)(hw:fF N ops ρ ⟨some d,op,ty,pos,af,g⟩=true:=by exact rfl)(hd:Nat.blt d N=true:=by exact rfl):MxM.XL P I N ops κ K M (k::σ) (⟨some d,op,ty,pos,af,g⟩::rest) ρ w:=MxM.XL_pure hk hw hd h n
theorem XO {P:Program}{I:World->Prop}{N:Nat}{ops:Array Oper}{κ:List MxM.Kd}{K:MxM.Mm->Env->World->Prop}{k:Nat}{M:MxM.Mm}{σ:List Nat}{rest:List Oper}{ρ:Env}{w:World}{d:Nat}{ty:TypeId}{pos:String}{af:Array Edge}{g:Option (Nat×Bool)}{op:Op}(n:MxM.XL P I N ops κ K M σ rest (upd ρ d undef) w)(hk:MxM.kdOf κ k= .pure:=by exact rfl)(hw:fF N ops ρ ⟨some d,op,ty,pos,af,g⟩=false:=by exact rfl)(hd:Nat.blt d N=true:=by exact rfl):MxM.XL P I N ops κ K M (k::σ) (⟨some d,op,ty,pos,af,g⟩::rest) ρ w:=MxM.XL_offp hk hw hd n
theorem XM {P:Program}{I:World->Prop}{N:Nat}{ops:Array Oper}{κ:List MxM.Kd}{K:MxM.Mm->Env->World->Prop}{k:Nat}{M:MxM.Mm}{σ:List Nat}{rest:List Oper}{ρ:Env}{w:World}{d:Nat}{ty:TypeId}{pos:String}{af:Array Edge}{g:Option (Nat×Bool)}{x:Operand}(v:Value)(n:MxM.XL P I N ops κ K M σ rest (upd ρ d v) w)(hx:ev ρ x=v:=by exact rfl)(hk:MxM.kdOf κ k= .pure:=by exact rfl)(hw:fF N ops ρ ⟨some d,.move x,ty,pos,af,g⟩=true:=by exact rfl)(hd:Nat.blt d N=true:=by exact rfl):MxM.XL P I N ops κ K M (k::σ) (⟨some d,.move x,ty,pos,af,g⟩::rest) ρ w:=MxM.XL_pure hk hw hd (λ_ _=>xA hx) n
theorem XR {P:Program}{c:World}{e:List Nat}{N:Nat}{ops:Array Oper}{κ:List MxM.Kd}{K:MxM.Mm->Env->World->Prop}{k:Nat}{M:MxM.Mm}{σ:List Nat}{rest:List Oper}{ρ:Env}{w:World}{d:Nat}{ty:TypeId}{pos:String}{af:Array Edge}{g:Option (Nat×Bool)}{t:TypeId}{x:Operand}{O S:List Nat}{f:World}{l:List Th}{b:Nat}{T:TypeId}{cs:List Value}{v:Value}(o:uN P t)(H:Hd O f w S l)(i j:Nat)(h:l[i]? =some (.blk b cs T))(m:cs[j]? =some v)(n:MxM.XL P (λa=>Only e c a) N ops κ K M σ rest (upd ρ d v) w)(hx:ev ρ x= .pointer (some ⟨b,0+j,none⟩):=by exact rfl)(hk:MxM.kdOf κ k= .read:=by exact rfl)(hw:fF N ops ρ ⟨some d,.load t x,ty,pos,af,g⟩=true:=by exact rfl)(hd:Nat.blt d N=true:=by exact rfl):MxM.XL P (λa=>Only e c a) N ops κ K M (k::σ) (⟨some d,.load t x,ty,pos,af,g⟩::rest) ρ w:=MxM.XL_read oS hk hw hd (λ_ p=>yP o hx (Hbg (H.Z p) i j h m)) n
theorem Ld {P:Program}{N:Nat}{ops:Array Oper}{Q:Exit->Env->World->Prop}{rest:List Oper}{ρ:Env}{w:World}{d:Nat}{t ty:TypeId}{x:Operand}{pos:String}{af:Array Edge}{g:Option (Nat×Bool)}{O S:List Nat}{a:World}{l:List Th}{b:Nat}{T:TypeId}{cs:List Value}{v:Value}(o:uN P t)(H:Hd O a w S l)(i j:Nat)(h:l[i]? =some (.blk b cs T))(c:cs[j]? =some v)(k:RL P N ops Q rest (upd ρ d v) w)(hx:ev ρ x= .pointer (some ⟨b,0+j,none⟩):=by exact rfl)(hw:fF N ops ρ ⟨some d,.load t x,ty,pos,af,g⟩=true:=by exact rfl)(hd:Nat.blt d N=true:=by exact rfl):RL P N ops Q (⟨some d,.load t x,ty,pos,af,g⟩::rest) ρ w:=zM (yP o hx (Hbg H i j h c)) k hw hd
theorem fK {f:FuncId}{fn:Func}(h:Tryz.prog.funcs[f]? =some fn)(a:fn.body.isSome=true:=by exact rfl)(b:(fn.name== "runtime.NumGoroutine")=false:=by kernel_rfl):Go.OB.Enters Tryz.prog f:=⟨_,h,a,b⟩
theorem u2:Tryz.prog.underlying 2=some (.int .i64):=Tryz.underlying2
theorem u3:Tryz.prog.underlying 3=some (.int .i64):=Tryz.underlying3
theorem u5:Tryz.prog.underlying 5=some (.int .u8):=Tryz.underlying5
theorem u9:Tryz.prog.underlying 9=some .string:=Tryz.underlying9
theorem u23:Tryz.prog.underlying 23=some (.slice 9):=Tryz.underlying23
theorem u24:Tryz.prog.underlying 24=some (.slice 65):=Tryz.underlying24
theorem u25:Tryz.prog.underlying 25=some (.slice 69):=Tryz.underlying25
theorem u37:Tryz.prog.underlying 37=some (.slice 5):=Tryz.underlying37
theorem u61:Tryz.prog.underlying 61=some (.slice 63):=Tryz.underlying61
theorem u100:Tryz.prog.underlying 100=some (.array 7 9):=Tryz.underlying100
theorem u104:Tryz.prog.underlying 104=some (.slice 3):=Tryz.underlying104
theorem u120:Tryz.prog.underlying 120=some (.int .u64):=Tryz.underlying120
theorem fo46_2:jW Tryz.prog 46 2=some (2,3):=by kernel_rfl
theorem fo46_3:jW Tryz.prog 46 3=some (3,9):=by kernel_rfl
theorem ui76:Tryz.prog.underlying 76=some (.interface (Tryz.prog.methodsAt 76)):=by kernel_rfl
abbrev szZ (a b:Nat):Prop:=Sz Tryz.prog a b
theorem szO {a b:Nat}(h:Sz Tryz.prog a b:=by unfold Sz;kernel_rfl):szZ a b:=h
theorem sz3:szZ 3 1:=szO
theorem sz9:szZ 9 1:=szO
theorem sz23:szZ 23 1:=szO
theorem sz24:szZ 24 1:=szO
theorem sz25:szZ 25 1:=szO
theorem aX:szZ 27 3:=szO
theorem sz32:szZ 32 1:=szO
theorem sz37:szZ 37 1:=szO
theorem sz46:szZ 46 4:=szO
theorem sz50:szZ 50 2:=szO
theorem sz61:szZ 61 1:=szO
theorem fA:szZ 63 7:=szO
theorem rP:szZ 65 9:=szO
theorem qG:szZ 69 8:=szO
theorem aN:szZ 138 7:=szO
abbrev wM (a:Nat):Prop:=uN Tryz.prog a
theorem aAc {a:Nat}(h:uN Tryz.prog a:=by unfold uN;kernel_rfl):wM a:=h
theorem fH:wM 3:=aAc
theorem aCm:wM 4:=aAc
theorem fV:wM 9:=aAc
theorem jD:wM 23:=aAc
theorem qJ:wM 24:=aAc
theorem kX:wM 25:=aAc
theorem nO:wM 28:=aAc
theorem one32:wM 32:=aAc
theorem aDi:wM 37:=aAc
theorem aP:wM 44:=aAc
theorem bM:wM 61:=aAc
abbrev aFi (a:Nat):Prop:=Agg Tryz.prog a
theorem aGt {a:Nat}(h:Agg Tryz.prog a:=by unfold Agg;kernel_rfl):aFi a:=h
theorem aW:aFi 27:=aGt
theorem agg46:aFi 46:=aGt
theorem fB:aFi 63:=aGt
theorem aDl:aFi 65:=aGt
theorem aGv:aFi 69:=aGt
theorem mJ:aFi 138:=aGt
theorem zero3:Go.OB.Zero Tryz.prog 3 ([i6 0]):=by unfold Go.OB.Zero;kernel_rfl
theorem zero27:Go.OB.Zero Tryz.prog 27 ([.slice none 0 0,.slice none 0 0,.slice none 0 0]):=by unfold Go.OB.Zero;kernel_rfl
theorem zero32:Go.OB.Zero Tryz.prog 32 ([.nilFunc]):=by unfold Go.OB.Zero;kernel_rfl
theorem zero46:Go.OB.Zero Tryz.prog 46 ([i6 0,i6 0,i6 0,.string (bs [])]):=by unfold Go.OB.Zero;kernel_rfl
theorem zero50:Go.OB.Zero Tryz.prog 50 ([i6 0,i6 0]):=by unfold Go.OB.Zero;kernel_rfl
theorem dL:Go.OB.Zero Tryz.prog 63 ([i6 0,.string (bs []),.string (bs []),i6 0,i6 0,i6 0,.slice none 0 0]):=by unfold Go.OB.Zero;kernel_rfl
theorem aBg:Go.OB.Zero Tryz.prog 65 ([.string (bs []),.string (bs []),i6 0,.string (bs []),.string (bs []),i6 0,i6 0,i6 0,.slice none 0 0]):=by unfold Go.OB.Zero;kernel_rfl
theorem aEu:Go.OB.Zero Tryz.prog 69 ([.string (bs []),i6 0,.string (bs []),.string (bs []),i6 0,i6 0,i6 0,.slice none 0 0]):=by unfold Go.OB.Zero;kernel_rfl
theorem zero74:Go.OB.Zero Tryz.prog 74 ([.pointer none,.slice none 0 0]):=by unfold Go.OB.Zero;kernel_rfl
theorem aJn:Go.OB.Zero Tryz.prog 138 ([vb false,vb false,vb false,vb false,vb false,i6 0,i6 0]):=by unfold Go.OB.Zero;kernel_rfl
theorem el3:El Tryz.prog 3 1 8 ([i6 0]):=⟨by kernel_rfl,by kernel_rfl,by kernel_rfl,by decide,by decide⟩
theorem el5:El Tryz.prog 5 1 1 ([.int .u8 0]):=⟨by kernel_rfl,by kernel_rfl,by kernel_rfl,by decide,by decide⟩
theorem el9:El Tryz.prog 9 1 16 ([.string (bs [])]):=⟨by kernel_rfl,by kernel_rfl,by kernel_rfl,by decide,by decide⟩
theorem nM:El Tryz.prog 63 7 88 ([i6 0,.string (bs []),.string (bs []),i6 0,i6 0,i6 0,.slice none 0 0]):=⟨by kernel_rfl,by kernel_rfl,by kernel_rfl,by decide,by decide⟩
theorem el65:El Tryz.prog 65 9 120 ([.string (bs []),.string (bs []),i6 0,.string (bs []),.string (bs []),i6 0,i6 0,i6 0,.slice none 0 0]):=⟨by kernel_rfl,by kernel_rfl,by kernel_rfl,by decide,by decide⟩
theorem el69:El Tryz.prog 69 8 104 ([.string (bs []),i6 0,.string (bs []),.string (bs []),i6 0,i6 0,i6 0,.slice none 0 0]):=⟨by kernel_rfl,by kernel_rfl,by kernel_rfl,by decide,by decide⟩
theorem z8_5:Z8 Tryz.prog 5:=by unfold Z8;kernel_rfl
theorem bz27:Tryz.prog.built 27 []=some ([.slice none 0 0,.slice none 0 0,.slice none 0 0]).toArray:=by kernel_rfl
theorem bz39:Tryz.prog.built 39 []=some ([.slice none 0 0]).toArray:=by kernel_rfl
theorem bz138:Tryz.prog.built 138 []=some ([vb false,vb false,vb false,vb false,vb false,i6 0,i6 0]).toArray:=by kernel_rfl
theorem bt46_0_1 (a b:Int):Tryz.prog.built 46 [(0,i6 a),(1,i6 b)]=some [i6 a,i6 b,i6 0,.string (bs [])].toArray:=by kernel_rfl
theorem bt48_0 (a:Str):Tryz.prog.built 48 [(0,sb a)]=some [sb a,i6 0,i6 0,i6 0,i6 0,.string (bs []),.slice none 0 0,.slice none 0 0,.slice none 0 0].toArray:=by kernel_rfl
theorem bt50_0_1 (a b:Int):Tryz.prog.built 50 [(0,i6 a),(1,i6 b)]=some [i6 a,i6 b].toArray:=by kernel_rfl
theorem bt63_0 (a:Int):Tryz.prog.built 63 [(0,i6 a)]=some [i6 a,.string (bs []),.string (bs []),i6 0,i6 0,i6 0,.slice none 0 0].toArray:=by kernel_rfl
theorem nG (a:Int)(b:Str):Tryz.prog.built 63 [(0,i6 a),(1,sb b)]=some [i6 a,sb b,.string (bs []),i6 0,i6 0,i6 0,.slice none 0 0].toArray:=by kernel_rfl
theorem aEc (a:Int)(b:Str)(c d:Int):Tryz.prog.built 63 [(0,i6 a),(1,sb b),(4,i6 c),(5,i6 d)]=some [i6 a,sb b,.string (bs []),i6 0,i6 c,i6 d,.slice none 0 0].toArray:=by kernel_rfl
theorem bt63_0_4 (a b:Int):Tryz.prog.built 63 [(0,i6 a),(4,i6 b)]=some [i6 a,.string (bs []),.string (bs []),i6 0,i6 b,i6 0,.slice none 0 0].toArray:=by kernel_rfl
theorem aBk (a b:Int)(c:Option Addr)(d e:Nat):Tryz.prog.built 63 [(0,i6 a),(5,i6 b),(6,.slice c d e)]=some [i6 a,.string (bs []),.string (bs []),i6 0,i6 0,i6 b,.slice c d e].toArray:=by kernel_rfl
theorem aZ (a:Int)(b:Option Addr)(c d:Nat):Tryz.prog.built 63 [(0,i6 a),(6,.slice b c d)]=some [i6 a,.string (bs []),.string (bs []),i6 0,i6 0,i6 0,.slice b c d].toArray:=by kernel_rfl
theorem bt65_0_1 (a b:Str):Tryz.prog.built 65 [(0,sb a),(1,sb b)]=some [sb a,sb b,i6 0,.string (bs []),.string (bs []),i6 0,i6 0,i6 0,.slice none 0 0].toArray:=by kernel_rfl
theorem bt69_0 (a:Str):Tryz.prog.built 69 [(0,sb a)]=some [sb a,i6 0,.string (bs []),.string (bs []),i6 0,i6 0,i6 0,.slice none 0 0].toArray:=by kernel_rfl
theorem bt138_0 (a:Bool):Tryz.prog.built 138 [(0,vb a)]=some [vb a,vb false,vb false,vb false,vb false,i6 0,i6 0].toArray:=by kernel_rfl
theorem aGl (a b c:Bool):Tryz.prog.built 138 [(0,vb a),(1,vb b),(2,vb c)]=some [vb a,vb b,vb c,vb false,vb false,i6 0,i6 0].toArray:=by kernel_rfl
theorem aHi (a b c:Bool):Tryz.prog.built 138 [(0,vb a),(2,vb b),(3,vb c)]=some [vb a,vb false,vb b,vb c,vb false,i6 0,i6 0].toArray:=by kernel_rfl
theorem aGs (a b c:Bool):Tryz.prog.built 138 [(0,vb a),(3,vb b),(4,vb c)]=some [vb a,vb false,vb false,vb b,vb c,i6 0,i6 0].toArray:=by kernel_rfl
theorem aCj (a b:Bool)(c d:Int):Tryz.prog.built 138 [(3,vb a),(4,vb b),(5,i6 c),(6,i6 d)]=some [vb false,vb false,vb false,vb a,vb b,i6 c,i6 d].toArray:=by kernel_rfl
theorem aGk (a:Bool)(b c:Int):Tryz.prog.built 138 [(4,vb a),(5,i6 b),(6,i6 c)]=some [vb false,vb false,vb false,vb false,vb a,i6 b,i6 c].toArray:=by kernel_rfl
theorem xR (a b:Int):Tryz.prog.built 138 [(5,i6 a),(6,i6 b)]=some [vb false,vb false,vb false,vb false,vb false,i6 a,i6 b].toArray:=by kernel_rfl
abbrev gX (b:Nat):Value:= .pointer (some ⟨b,0,none⟩)
def FAt (t i m:Nat):Prop:= ∀{ρ:Env}{w:World}{d:Option Tmp}{x:Operand}{ty:TypeId}{pos:String}{af:Array Edge}{g:Option (Nat×Bool)}{b o:Nat} (_:ev ρ x= .pointer (some ⟨b,o,none⟩)),Do Tryz.prog ⟨d,.fieldAddr t x i,ty,pos,af,g⟩ ρ w (.pointer (some ⟨b,o+m,none⟩)) w
theorem faO {t i m:Nat}(n:Nat)(h:aBl Tryz.prog t i=some (m,some n):=by kernel_rfl)(hn:n≠0:=by decide):FAt t i m:=λhx=>aCd h hn hx
theorem aG:FAt 27 0 0:=faO 1
theorem kN:FAt 27 1 1:=faO 1
theorem bU:FAt 27 2 2:=faO 1
theorem uY:FAt 39 0 0:=faO 1
theorem jR:FAt 46 0 0:=faO 1
theorem fa46_1:FAt 46 1 1:=faO 1
theorem fa46_2:FAt 46 2 2:=faO 1
theorem uZ:FAt 46 3 3:=faO 1
theorem rF:FAt 48 0 0:=faO 1
theorem aY:FAt 48 1 1:=faO 1
theorem bG:FAt 48 2 2:=faO 4
theorem rG:FAt 48 3 6:=faO 3
theorem fa50_0:FAt 50 0 0:=faO 1
theorem aEe:FAt 50 1 1:=faO 1
theorem bW:FAt 63 0 0:=faO 1
theorem jA:FAt 63 1 1:=faO 1
theorem sN:FAt 63 2 2:=faO 1
theorem nR:FAt 63 3 3:=faO 1
theorem kQ:FAt 63 4 4:=faO 1
theorem jB:FAt 63 5 5:=faO 1
theorem dF:FAt 63 6 6:=faO 1
theorem aDp:FAt 65 0 0:=faO 1
theorem aBb:FAt 65 1 1:=faO 1
theorem sO:FAt 65 2 2:=faO 7
theorem sS:FAt 69 0 0:=faO 1
theorem rY:FAt 69 1 1:=faO 7
theorem aHo:FAt 74 1 1:=faO 1
theorem aJy:FAt 138 0 0:=faO 1
theorem aJg:FAt 138 1 1:=faO 1
theorem aJd:FAt 138 2 2:=faO 1
theorem aJk:FAt 138 3 3:=faO 1
theorem aKl:FAt 138 4 4:=faO 1
theorem fa138_5:FAt 138 5 5:=faO 1
theorem fa138_6:FAt 138 6 6:=faO 1
abbrev dD:=f1 fD
abbrev bF:=f1 Rp.str
abbrev jS:=f1 fO
abbrev mP:=f1 fC
section
variable {O S:List Nat}{v w:World}{a b c d e f g i j k l m n o p q r s t u x:Th}
abbrev hh (p:Prop):Prop:=p->p
theorem un1:hh (Hd O v w S [a]):=id
theorem un2:hh (Hd O v w S [a,b]):=id
theorem un3:hh (Hd O v w S [a,b,c]):=id
theorem un4:hh (Hd O v w S [a,b,c,d]):=id
theorem un5:hh (Hd O v w S [a,b,c,d,e]):=id
theorem un6:hh (Hd O v w S [a,b,c,d,e,f]):=id
theorem un7:hh (Hd O v w S [a,b,c,d,e,f,g]):=id
theorem un8:hh (Hd O v w S [a,b,c,d,e,f,g,i]):=id
theorem un9:hh (Hd O v w S [a,b,c,d,e,f,g,i,j]):=id
theorem qM:hh (Hd O v w S [a,b,c,d,e,f,g,i,j,k]):=id
theorem qC:hh (Hd O v w S [a,b,c,d,e,f,g,i,j,k,l]):=id
theorem mZ:hh (Hd O v w S [a,b,c,d,e,f,g,i,j,k,l,m]):=id
theorem un13:hh (Hd O v w S [a,b,c,d,e,f,g,i,j,k,l,m,n]):=id
theorem un14:hh (Hd O v w S [a,b,c,d,e,f,g,i,j,k,l,m,n,o]):=id
theorem un15:hh (Hd O v w S [a,b,c,d,e,f,g,i,j,k,l,m,n,o,p]):=id
theorem un21:hh (Hd O v w S [a,b,c,d,e,f,g,i,j,k,l,m,n,o,p,q,r,s,t,u,x]):=id
end
section
variable {P:Program}{N:Nat}{ops:Array Oper}{Q:Exit->Env->World->Prop}{rest:List Oper}{ρ:Env}{w:World}{d f:Nat}{t u ty tz:TypeId}{x y:Operand}{pos qos:String}{af bf:Array Edge}{g h:Option (Nat×Bool)}{b o m i:Nat}
theorem nf (hx:ev ρ x= .pointer (some ⟨b,o,none⟩))(fa:FAt t i m)(n:RL Tryz.prog N ops Q rest (upd (upd ρ d (.pointer (some ⟨b,o,none⟩))) f (.pointer (some ⟨b,o+m,none⟩))) w)(hy:ev (upd ρ d (.pointer (some ⟨b,o,none⟩))) y= .pointer (some ⟨b,o,none⟩):=by exact rfl)(hw:fF N ops ρ ⟨some d,.nilCheck x,ty,pos,af,g⟩=true:=by exact rfl)(hd:Nat.blt d N=true:=by exact rfl)(hv:fF N ops (upd ρ d (.pointer (some ⟨b,o,none⟩))) ⟨some f,.fieldAddr t y i,tz,qos,bf,h⟩=true:=by exact rfl)(hf:Nat.blt f N=true:=by exact rfl):RL Tryz.prog N ops Q (⟨some d,.nilCheck x,ty,pos,af,g⟩::⟨some f,.fieldAddr t y i,tz,qos,bf,h⟩::rest) ρ w:=zM (dA hx) (zM (fa hy) n hv hf) hw hd
theorem Xn {I:World->Prop}{κ:List MxM.Kd}{K:MxM.Mm->Env->World->Prop}{k q:Nat}{M:MxM.Mm}{σ:List Nat}(hx:ev ρ x= .pointer (some ⟨b,o,none⟩))(fa:FAt t i m)(n:MxM.XL Tryz.prog I N ops κ K M σ rest (upd (upd ρ d (.pointer (some ⟨b,o,none⟩))) f (.pointer (some ⟨b,o+m,none⟩))) w)(hy:ev (upd ρ d (.pointer (some ⟨b,o,none⟩))) y= .pointer (some ⟨b,o,none⟩):=by exact rfl)(hk:MxM.kdOf κ k= .pure:=by exact rfl)(hq:MxM.kdOf κ q= .pure:=by exact rfl)(hw:fF N ops ρ ⟨some d,.nilCheck x,ty,pos,af,g⟩=true:=by exact rfl)(hd:Nat.blt d N=true:=by exact rfl)(hv:fF N ops (upd ρ d (.pointer (some ⟨b,o,none⟩))) ⟨some f,.fieldAddr t y i,tz,qos,bf,h⟩=true:=by exact rfl)(hf:Nat.blt f N=true:=by exact rfl):MxM.XL Tryz.prog I N ops κ K M (k::q::σ) (⟨some d,.nilCheck x,ty,pos,af,g⟩::⟨some f,.fieldAddr t y i,tz,qos,bf,h⟩::rest) ρ w:=XQ (dA hx) (XQ (fa hy) n hq hv hf) hk hw hd
theorem nJ {I:World->Prop}{κ:List MxM.Kd}{K:MxM.Mm->Env->World->Prop}{M:MxM.Mm}{σ O S:List Nat}{v u:World}{l r:List Th}(G:Hd O v u S r)(H:Hd O u w (bks r) l)(n: ∀a,Hd O v a S l->K M ρ a):MxM.XL P I N ops κ K M σ [] ρ w:=MxM.XL_nil λa s=>n a (G.rj (H.Z s))
end
theorem _root_.Go.Lf.Hd.im {O S:List Nat}{v w:World}{l:List Th}(H:Hd O v w S l)(i:Nat){it:Th}(h:l[i]? =some it):it.holds (frees O l) w:=H.V h
theorem _root_.Go.Lf.Hm.im {n:Nat}{A:Nat->Prop}{O S:List Nat}{v w:World}{l:List Th}(H:Hm n A O v w S l)(i:Nat){it:Th}(h:l[i]? =some it):it.holds (frm O l v) w:=H.V h
theorem p1z {P:Program}{R:Ending->World->Prop}{ρ:Env}{w:World}{rs:Array ResultVar}{t:Tmp}{v:Value}(h:R (.returned v) w)(hr:rs= #[.tmp t]:=by exact rfl)(a:ρ t=v:=by exact rfl):mO P rs R .ret ρ w:=pI hr a h
theorem en5:En 5:=fK Tryz.func5
theorem en6:En 6:=fK Tryz.func6
theorem en9:En 9:=fK Tryz.func9
theorem aGu:En 12:=fK Tryz.func12
theorem en17:En 17:=fK Tryz.func17
theorem en27:En 27:=fK Tryz.func27
theorem en28:En 28:=fK Tryz.func28
theorem en31:En 31:=fK Tryz.func31
theorem en32:En 32:=fK Tryz.func32
theorem en33:En 33:=fK Tryz.func33
theorem en34:En 34:=fK Tryz.func34
theorem aCn:En 37:=fK Tryz.func37
theorem aHq:En 38:=fK Tryz.func38
theorem aCi:En 39:=fK Tryz.func39
theorem en40:En 40:=fK Tryz.func40
theorem en41:En 41:=fK Tryz.func41
theorem aFn:En 42:=fK Tryz.func42
theorem en43:En 43:=fK Tryz.func43
theorem en44:En 44:=fK Tryz.func44
theorem en50:En 50:=fK Tryz.func50
theorem en51:En 51:=fK Tryz.func51
theorem en52:En 52:=fK Tryz.func52
theorem en53:En 53:=fK Tryz.func53
theorem en54:En 54:=fK Tryz.func54
theorem en55:En 55:=fK Tryz.func55
theorem aDw:En 57:=fK Tryz.func57
theorem en58:En 58:=fK Tryz.func58
theorem en59:En 59:=fK Tryz.func59
theorem en60:En 60:=fK Tryz.func60
theorem en64:En 64:=fK Tryz.func64
theorem en67:En 67:=fK Tryz.func67
theorem en68:En 68:=fK Tryz.func68
theorem en69:En 69:=fK Tryz.func69
theorem en70:En 70:=fK Tryz.func70
theorem en71:En 71:=fK Tryz.func71
theorem en72:En 72:=fK Tryz.func72
theorem en73:En 73:=fK Tryz.func73
theorem en74:En 74:=fK Tryz.func74
theorem en75:En 75:=fK Tryz.func75
theorem en76:En 76:=fK Tryz.func76
theorem en78:En 78:=fK Tryz.func78
theorem en87:En 87:=fK Tryz.func87
theorem en88:En 88:=fK Tryz.func88
theorem en89:En 89:=fK Tryz.func89
theorem en97:En 97:=fK Tryz.func97
theorem aDo:En 100:=fK Tryz.func100
theorem aAy:En 101:=fK Tryz.func101
theorem en102:En 102:=fK Tryz.func102
theorem aFy:En 124:=fK Tryz.func124
theorem mixed:Tryz.prog.follows .mixedOrders=true:=by kernel_rfl
theorem aFo {g:Option gB}{a:Int}{c:Option Addr}{r:Except gQ Unit}(d:Fao g a=some r)(H:Hd O w w S [.fz (.pt fM c g)]):
  Calls Tryz.prog 42 ([.pointer c,i6 a]:List Value).toArray w (tk flt r (λ_ e f=>e= .returned (.tuple #[])/\Hd O w f S []) λf=>Hd O w f S []):=by
 refine CW 12 Tryz.func42 ?_;refine zF<|zB (.pointer c)<|bE d λb k d=>?_;obtain⟨h,j,_,l,m,n,o,p⟩:=mQ ((H.im 0 rfl):PtF _ _ _ _ _) k;obtain⟨q,s,t,rfl,u,x,y⟩:=cO o;have H:=H.fzs [.at h j _,.sl Rp.str q b.r.Phases,.sl fC s b.r.Moves,.sl fO t b.r.Rules] ⟨⟨m,n,p⟩,u,x,y,T1⟩;refine zM (dA (ad:=⟨h,j,none⟩) (congrArg Value.pointer l))<|zM (bG rfl)<|zM (fa46_1 rfl)<|zM (yP fH rfl (Cells.get (H.im 1 rfl).2.2 (i:=3) rfl))<|zB (i6 a)<|zM (yB (cs:=[i6 b.now.at_,i6 a]) (bt50_0_1 _ _))<|zM (Do_mkI (v:= .agg [i6 b.now.at_,i6 a].toArray) (by kernel_rfl) rfl) ?_;cases d;exact RL_throw rfl (Do_panic (T:=50) rfl) (And.intro rfl (H.U []))
theorem Fenw {a:Str}{b r:Int}(c:Fen a b=some r)(H:Hd O w w S []):
  Rt 94 [sb a,.int .u8 b] (i6 r) w O S []:=by
 refine CW 8 Tryz.func94 ?_;refine SR<|zC (i6 0)<|RM<|SR<|zB (sb a)<|zB (.int .u8 b)<|bE c λd e c=>RC (fK Tryz.func117) (E.Fezw a b _ e _ _ _ (H.W [] [])) H λf H=>zC (i6 d)<|RM ?_;cases c;exact zJ<|p1z ⟨Z,H.U []⟩
theorem Fblw {d r:gB}{e:Nat}{f g h:Value}(c:Fbl d=some r)(H:Hd O w w S [.own Rp.str f 9 d.r.Phases,.own fC g 65 d.r.Moves,.own fO h 69 d.r.Rules,.blk e [sb d.text,i6 d.at_,i6 d.now.kind,i6 d.now.at_,i6 d.now.n,sb d.now.text,f,g,h] 48]):
  Rt 63 [gX e] (.tuple #[]) w O S [.blk e [sb r.text,i6 r.at_,i6 r.now.kind,i6 r.now.at_,i6 r.now.n,sb r.now.text,f,g,h] 48,.own Rp.str f 9 d.r.Phases,.own fC g 65 d.r.Moves,.own fO h 69 d.r.Rules]:=by
 unfold Fbl at c;refine CW 66 Tryz.func63 ?_;refine zT<|lo c H (rg [2,64]) (λx (y:Unit)=>[]) (λx y=>[.blk e [sb d.text,i6 x,i6 d.now.kind,i6 d.now.at_,i6 d.now.n,sb d.now.text,f,g,h] 48]) [1,2,3,0] () (H.U [0,1,2,3]) ?_;clear H c;rintro X i _ ρ Y H c;have H:=un4 H;refine SQ<|SQ ?_;have m:=H;have H:=H.rb;have aa:=H;refine WP_mix0 H (rg [0,10]) (kz [0,0,0,1,0,0,0,1,0,0]) mixed ?_;refine XM (gX e)<|Xn Z aY<|XR fH H 3 1 Z Z<|XM (gX e)<|Xn Z rF<|XR fV H 3 0 Z Z<|lE c λo p c=>XQ (xC (Do_slen (s1:=d.text) u9 Z) (congrArg (Value.int .i64) p))<|lE c λ_ s c=>XQ (tC (nS (a:=i) (b:=o) Z Z) s)<|nJ m H λ_ H=>?_;refine zK<|KN<|WJ c (λc=>WZ<|zT<|SQ ?_) λc=>?_;have t:=H;have H:=H.rb;have ad:=H;refine WP_mix0 H (rg [0,9]) (kz [0,0,0,1,0,0,0,1,0]) mixed ?_;refine XM (gX e)<|Xn Z rF<|XR fV H 3 0 Z Z<|XM (gX e)<|Xn Z aY<|XR fH H 3 1 Z Z<|bE c λ_ u c=>XQ (bJ (s1:=d.text) (q:=i) u9 Z Z u)<|nJ t H λaf H=>?_;refine zK<|KN<|zT<|bE c λz c A=>sJ H (rg [22,5]) [(22,vb z)] ?_ ?_;refine SR<|fP c λB c=>zC (vb B)<|RM<|WJ c ?_ ?_<;>intro c;cases c;exact js<|mt () (H.U [0,1,2,3]);refine SR<|fP c λC c=>zC (vb C)<|RM<|WJ c ?_ ?_<;>intro c;cases c;exact js<|mt () (H.U [0,1,2,3]);refine SR<|fP c λD c=>zC (vb D)<|RM<|WJ c ?_ ?_<;>intro c;cases c;exact js<|mt () (H.U [0,1,2,3]);refine zF<|fP c λE c=>zC (vb E) ?_;cases c;exact jn<|mt () (H.U [0,1,2,3])
 rintro _ ρ _ H;have c:=A;refine WJ c ?_ ?_<;>intro c;exact zF<|zB (gX e)<|nf Z aY<|Ld fH H 3 1 Z Z<|dZ c λF c=>nf Z aY<|xu (yE H 3 Z sz3 Z (v:=i6 F) Z Z Z) λ_ H=>yH<|zX<|zX<|zK<|me c () (H.U [0,1,2,3]);refine SR<|fP c λG c=>zC (vb G)<|RM<|WJ c (λc=>SQ ?_) λc=>?_;have I:=H;have H:=H.rb;have ai:=H;refine WP_mix0 H (rg [0,11]) (kz [0,0,0,1,0,0,0,1,0,4,0]) mixed ?_;refine XM (gX e)<|Xn Z rF<|XR fV H 3 0 Z Z<|XM (gX e)<|Xn Z aY<|XR fH H 3 1 Z Z<|bE c λ_ J c=>XQ (wL (s1:=d.text) u9 Z Z J) ?_;have K:=H;refine bE c λj L c=>MxM.XL_fcall oS Z Z Z (v:=i6 j) (λk M=>zW (fK Tryz.func94) Z) (λk M=>bZ (Fenw L (Hd.fresh0 k))) ?_;have H:=K;refine XQ (yS (v:=i6 j) Z)<|nJ I H λ_ H=>?_;refine zK<|KN<|bE c λl c N=>sJ H (rg [2,1,46,12]) [(2,i6 l)] ?_ ?_;refine SR<|zB (i6 j)<|dV c λ_ c=>RM<|WJ c ?_ ?_<;>intro c;have P:=H;have H:=H.rb;have am:=H;refine WP_mix0 H (rg [0,11]) (kz [0,0,0,1,0,0,0,0,1,0,0]) mixed ?_;refine XM (gX e)<|Xn Z rF<|XR fV H 3 0 Z Z<|lE c λQ R c=>XQ (xC (Do_slen (s1:=d.text) u9 Z) (congrArg (Value.int .i64) R))<|XM (gX e)<|Xn Z aY<|XR fH H 3 1 Z Z<|lE c λT U c=>XQ (aIo (a:=Q) (b:=i) Z Z U)<|XQ (yS (v:=i6 T) Z)<|nJ P H λ_ H=>?_;cases c;exact zK<|mt () (H.U [0,1,2,3]);cases c;exact js<|mt () (H.U [0,1,2,3]);rintro _ ρ _ H;have c:=N;exact zF<|zB (gX e)<|nf Z aY<|Ld fH H 3 1 Z Z<|zB (i6 l)<|dZ c λV c=>nf Z aY<|xu (yE H 3 Z sz3 Z (v:=i6 V) Z Z Z) λ_ H=>yH<|zX<|zX<|zK<|me c () (H.U [0,1,2,3])
 cases c;exact zJ<|zQ<|zQ<|zG<|zQ<|aKm Z ⟨Z,H.U [3,0,1,2]⟩;cases c;exact yL<|zV<|zV<|yC<|bK Z ⟨Z,H.U [3,0,1,2]⟩
theorem Fcdw {b:Int}{r:Bool}(a:Fcd b=some r)(H:Hd O w w S []):
  Rt 64 [.int .u8 b] (vb r) w O S []:=by
 refine CW 21 Tryz.func64 ?_;refine SR<|zC (vb false)<|RM<|bE a λe a f=>sJ H (rg [2,19]) [(2,vb e)] ?_ ?_;refine zF<|zB (.int .u8 b)<|wU a λl a=>bE a λg a h=>RL_cutS 4 [5,6,7,8] [(8,vb g)] (λwl=>Hd O w wl S []) ?_ ?_;refine RJ a (λa=>zB (.int .u8 b)<|aCq a λi a=>pt (vb i) ?_) λa=>?_;cases a;exact jn<|meet ⟨(yD Z yJ),H.U []⟩;refine zN<|zN<|pf (vb false) ?_;cases a;exact jn<|meet ⟨(yD Z yJ),H.U []⟩;rintro ρ m H;have a:=h;refine bE a λj a k=>RL_cutS 8 [9,10,11,12,13,14,15,16] [(16,vb j)] (λwl=>Hd O w wl S []) ?_ ?_;refine RJ a (λa=>zN<|zN<|zN<|zN<|zN<|zN<|pt (vb true) ?_) λa=>?_;cases a;exact jn<|meet ⟨(yD Z yJ),H.U []⟩;refine zB (.int .u8 b)<|wU a λn a=>RJ a (λa=>zB (.int .u8 b)<|aCq a λc a=>pt (vb c)<|pf (vb c) ?_) λa=>?_;cases a;exact jn<|meet ⟨(yD Z yJ),H.U []⟩;refine zN<|zN<|pf (vb false)<|pf (vb false) ?_;cases a;exact jn<|meet ⟨(yD Z yJ),H.U []⟩;rintro ρ o H;have a:=k;refine RJ a (λa=>zN<|zN<|pt (vb true)<|zC (vb true) ?_) λa=>?_;cases a;exact jn<|mt () (H.U []);refine zB (.int .u8 b)<|fP a λd a=>pf (vb d)<|zC (vb d) ?_;cases a;exact jn<|mt () (H.U []);rintro _ ρ p H;have a:=f;cases a;exact zJ<|p1z ⟨Z,H.U []⟩
theorem Fb3w {b:Str}{r:Bool}(a:Fb3 b=some r)(H:Hd O w w S []):
  Rt 73 [sb b] (vb r) w O S []:=by
 refine CW 21 Tryz.func73 ?_;refine SR<|zC (vb false)<|RM<|SQ<|SR<|zB (sb b)<|RM<|zT<|bE a λc a d=>sJ H (rg [4,17]) [(4,vb c)] ?_ ?_;refine SR<|RLb a (yG (s1:=b) (s2:=[112,104,97,115,101]) Z Z) λe a=>zC (vb e)<|RM<|WJ a ?_ ?_<;>intro a;cases a;exact js<|mt () (H.U []);refine SR<|RLb a (yG (s1:=b) (s2:=[109,111,118,101]) Z Z) λf a=>zC (vb f)<|RM<|WJ a ?_ ?_<;>intro a;cases a;exact js<|mt () (H.U []);refine SR<|RLb a (yG (s1:=b) (s2:=[114,117,108,101]) Z Z) λg a=>zC (vb g)<|RM<|WJ a ?_ ?_<;>intro a;cases a;exact js<|mt () (H.U []);refine SR<|RLb a (yG (s1:=b) (s2:=[105,102]) Z Z) λh a=>zC (vb h)<|RM<|WJ a ?_ ?_<;>intro a;cases a;exact js<|mt () (H.U []);refine SR<|RLb a (yG (s1:=b) (s2:=[111,114]) Z Z) λi a=>zC (vb i)<|RM<|WJ a ?_ ?_<;>intro a;cases a;exact js<|mt () (H.U []);refine SR<|RLb a (yG (s1:=b) (s2:=[97,110,100]) Z Z) λj a=>zC (vb j)<|RM<|WJ a ?_ ?_<;>intro a;cases a;exact js<|mt () (H.U []);refine SR<|RLb a (yG (s1:=b) (s2:=[116,114,117,101]) Z Z) λk a=>zC (vb k)<|RM<|WJ a ?_ ?_<;>intro a;cases a;exact js<|mt () (H.U []);refine SR<|RLb a (yG (s1:=b) (s2:=[102,97,108,115,101]) Z Z) λl a=>zC (vb l)<|RM<|WJ a ?_ ?_<;>intro a;cases a;exact js<|mt () (H.U []);refine SR<|RLb a (yG (s1:=b) (s2:=[115,116,101,97,100,121]) Z Z) λm a=>zC (vb m)<|RM<|WJ a ?_ ?_<;>intro a;cases a
 exact js<|mt () (H.U []);refine SR<|RLb a (yG (s1:=b) (s2:=[110,111,116]) Z Z) λn a=>zC (vb n)<|RM<|WJ a ?_ ?_<;>intro a;cases a;exact js<|mt () (H.U []);refine SR<|RLb a (yG (s1:=b) (s2:=[102,111,114]) Z Z) λo a=>zC (vb o)<|RM<|WJ a ?_ ?_<;>intro a;cases a;exact js<|mt () (H.U []);refine SR<|RLb a (yG (s1:=b) (s2:=[119,105,116,104,105,110]) Z Z) λp a=>zC (vb p)<|RM<|WJ a ?_ ?_<;>intro a;cases a;exact js<|mt () (H.U []);refine SR<|RLb a (yG (s1:=b) (s2:=[99,111,117,110,116]) Z Z) λq a=>zC (vb q)<|RM<|WJ a ?_ ?_<;>intro a;cases a;exact js<|mt () (H.U []);refine SR<|RLb a (yG (s1:=b) (s2:=[111,102]) Z Z) λs a=>zC (vb s)<|RM<|WJ a ?_ ?_<;>intro a;cases a;exact js<|mt () (H.U []);refine SR<|RLb a (yG (s1:=b) (s2:=[114,105,115,101,115]) Z Z) λt a=>zC (vb t)<|RM<|WJ a ?_ ?_<;>intro a;cases a;exact js<|mt () (H.U []);refine zF<|RLb a (yG (s1:=b) (s2:=[115,105,110,99,101]) Z Z) λu a=>zC (vb u) ?_;cases a;exact jn<|mt () (H.U []);rintro _ ρ v H;have a:=d;refine WJ a (λa=>SR<|zC (vb true)<|RM ?_) λa=>?_;cases a;exact zJ<|zQ<|zG<|p1z ⟨Z,H.U []⟩;refine yN<|zX<|zK<|KN<|SR<|zC (vb false)<|RM ?_;cases a;exact zJ<|p1z ⟨Z,H.U []⟩
theorem Faww {b c d:Int}{r:Bool}(a:Faw b c d=some r)(H:Hd O w w S []):
  Rt 72 [i6 b,i6 c,i6 d] (vb r) w O S []:=by
 refine CW 15 Tryz.func72 ?_;refine SR<|zC (vb false)<|RM<|bE a λf a g=>sJ H (rg [6,9]) [(6,vb f)] ?_ ?_;refine zF<|zB (i6 b)<|zB (i6 c)<|wU a λh a=>RJ a (λa=>zB (i6 b)<|zB (i6 d)<|aCq a λe a=>pt (vb e)<|zC (vb e) ?_) λa=>?_;cases a;exact jn<|mt () (H.U []);refine zN<|zN<|zN<|pf (vb false)<|zC (vb false) ?_;cases a;exact jn<|mt () (H.U []);rintro _ ρ i H;have a:=g;cases a;exact zJ<|p1z ⟨Z,H.U []⟩
theorem Fa1w {b:Str}{r:Bool}(a:Fa1 b=some r)(H:Hd O w w S []):
  Rt 43 [sb b] (vb r) w O S []:=by
 refine CW 33 Tryz.func43 ?_;refine SR<|zC (vb false)<|RM<|SQ<|bE a λd a e=>sJ H (rg [4,18]) [(21,vb d)] ?_ ?_;refine zF<|zB (sb b)<|RLi a (Do_slen (s1:=b) u9 Z) λv a=>bE a λ_ f a=>RC en72 (Faww f (H.W [] [])) H λA H=>aB a λB a=>bE a λg a h=>RL_cutS 5 [8,9,10,11,12] [(12,vb g)] (λwl=>Hd O w wl S []) ?_ ?_;refine RJ a (λa=>zN<|zN<|zN<|pt (vb true) ?_) λa=>?_;cases a;exact jn<|meet ⟨(yD Z yJ),H.U []⟩;refine zB (sb b)<|bE a λC i a=>zM (bJ (s1:=b) (q:=0) u9 Z Z i)<|dV a λj a=>pf (vb j) ?_;cases a;exact jn<|meet ⟨(yD Z yJ),H.U []⟩;rintro ρ D H;have a:=h;refine bE a λk a l=>RL_cutS 5 [13,14,15,16,17] [(17,vb k)] (λwl=>Hd O w wl S []) ?_ ?_;refine RJ a (λa=>zN<|zN<|zN<|pt (vb true) ?_) λa=>?_;cases a;exact jn<|meet ⟨(yD Z yJ),H.U []⟩;refine zB (sb b)<|bE a λ_ m a=>zM (bJ (s1:=b) (q:=0) u9 Z Z m)<|rM a λn a=>pf (vb n) ?_;cases a;exact jn<|meet ⟨(yD Z yJ),H.U []⟩;rintro ρ _ H;have a:=l;refine RJ a (λa=>zN<|zN<|pt (vb true) ?_) λa=>?_;cases a;exact jn<|mt () (H.U []);refine zB (sb b)<|bE a λo p a=>RC en73 (Fb3w p (H.W [] [])) H λ_ H=>pf (vb o) ?_;cases a;exact jn<|mt () (H.U []);rintro _ ρ _ H;have a:=e;refine WJ a (λa=>SR<|zC (vb false)<|RM ?_) λa=>?_;cases a;exact zJ<|zG<|p1z ⟨Z,H.U []⟩;refine WZ<|jk a H (rg [2,2,22,11]) (λx (y:Unit)=>[]) (λx y=>[]) [] (λ_ a=>?_) ?_;refine SR<|zB (sb b)<|RLi a (Do_slen (s1:=b) u9 Z) λ_ a=>zB (i6 0)<|RM<|zT<|lo a H (rg [2,2,24,9]) (λx (y:Unit)=>[(24,i6 x)]) (λx y=>[]) [] () (H.U []) ?_
 clear H a;rintro _ c _ ρ _ H a;refine SR<|dV a λN a=>RM<|SQ<|WJ a (λa=>WZ<|SQ<|zT<|SR<|zB (i6 c)<|zC (i6 c)<|RM<|SR<|zB (sb b)<|zB (i6 c)<|bE a λP s a=>zM (bJ (s1:=b) (q:=c) u9 Z Z s)<|bE a λQ t a=>RC en64 (Fcdw t (H.W [] [])) H λ_ H=>aB a λT a=>RM<|WJ a (λa=>SR<|zC (vb false)<|RM ?_) λa=>?_) λa=>?_;cases a;exact zJ<|zQ<|zG<|zG<|zQ<|zG<|p1z ⟨Z,H.U []⟩;exact yN<|zX<|zK<|KN<|zF<|dZ a λu a=>zB (i6 u)<|jn<|me a () (H.U []);exact yL<|zV<|zV<|yC<|zK<|me a () (H.U []);rintro _ _ ρ U H a;refine SR<|zC (vb true)<|RM ?_;cases a;exact zJ<|p1z ⟨Z,H.U []⟩
theorem Feuw {a:Int}{r:Str}(b:Feu a=some r)(H:Hd O w w S [.fz (.at 1 0 ((Fl.arr 20 (Fl.int .u64)).f zD))]):
  Rt 91 [i6 a] (sb r) w O S []:=by
 refine CW 5 Tryz.func91 ?_;refine SR<|zC (.string (bs []))<|RM<|SR<|zB (i6 a)<|bE b λc d b=>RC (fK Tryz.func111) (E.Fdxw a 10 _ d _ _ _ (H.W [] [0])) H λe H=>zC (sb c)<|RM ?_;cases b;exact zJ<|p1z ⟨Z,H.U []⟩
theorem aEp {a:Int}{r:Str}(b:Fat a=some r)(H:Hd O w w S [.fz (.at 1 0 ((Fl.arr 20 (Fl.int .u64)).f zD))]):
  Rt 57 [i6 a] (sb r) w O S []:=by
 refine CW 5 Tryz.func57 ?_;refine SR<|zC (.string (bs []))<|RM<|SR<|zB (i6 a)<|bE b λc d b=>RC (fK Tryz.func91) (Feuw d (H.W [] [0])) H λe H=>zC (sb c)<|RM ?_;cases b;exact zJ<|p1z ⟨rfl,H.U []⟩
theorem Fb0w {c b:Str}{r:Bool}(a:Fb0 c b=some r)(H:Hd O w w S []):
  Rt 97 [sb c,sb b] (vb r) w O S []:=by
 refine CW 18 Tryz.func97 ?_;refine SR<|zC (vb false)<|RM<|bE a λe a f=>sJ H (rg [4,14]) [(4,vb e)] ?_ ?_;refine zF<|zB (sb c)<|RLi a (Do_slen (s1:=c) u9 Z) λi a=>zB (sb b)<|RLi a (Do_slen (s1:=b) u9 Z) λj a=>wU a λk a=>RJ a (λa=>zB (sb c)<|zB (sb b)<|RLi a (Do_slen (s1:=b) u9 Z) λl a=>bE a λg h a=>zM (Do_cut_h (s1:=c) u9 Z Z h)<|zB (sb b)<|RLb a (yG (s1:=g) (s2:=b) Z Z) λd a=>pt (vb d)<|zC (vb d) ?_) λa=>?_;cases a;exact jn<|mt () (H.U []);refine zN<|zN<|zN<|zN<|zN<|zN<|pf (vb false)<|zC (vb false) ?_;cases a;exact jn<|mt () (H.U []);rintro _ ρ m H;have a:=f;cases a;exact zJ<|p1z ⟨Z,H.U []⟩
theorem Fe7w {b c r:Str}(a:Fe7 b c=some r)(H:Hd O w w S []):
  Rt 120 [sb b,sb c] (sb r) w O S []:=by
 refine CW 13 Tryz.func120 ?_;refine SR<|zC (.string (bs []))<|RM<|SQ<|SR<|zB (sb b)<|zB (sb c)<|bE a λg d a=>RC en97 (Fb0w d (H.W [] [])) H λh H=>RM<|WJ a (λa=>SR<|zB (sb b)<|zB (sb c)<|RLi a (Do_slen (s1:=c) u9 Z) λi a=>bE a λe f a=>zM (wL (s1:=b) u9 Z Z f)<|zC (sb e)<|RM ?_) λa=>?_;cases a;exact zJ<|zG<|p1z ⟨Z,H.U []⟩;refine WZ<|SR<|zB (sb b)<|zC (sb b)<|RM ?_;cases a;exact zJ<|p1z ⟨Z,H.U []⟩
theorem Fc7w {a b r:Str}(c:Fc7 a b=some r)(H:Hd O w w S []):
  Rt 96 [sb a,sb b] (sb r) w O S []:=by
 refine CW 8 Tryz.func96 ?_;refine SR<|zC (.string (bs []))<|RM<|SR<|zB (sb a)<|zB (sb b)<|bE c λd e c=>RC (fK Tryz.func120) (Fe7w e (H.W [] [])) H λf H=>zC (sb d)<|RM ?_;cases c;exact zJ<|p1z ⟨Z,H.U []⟩
theorem Fdgw {b:gB}{d:Nat}{h j k:Value}{r:Except gQ gB}(a:Fdg b=some r)(H:Hd O w w S [.own Rp.str h 9 b.r.Phases,.own fC j 65 b.r.Moves,.own fO k 69 b.r.Rules,.blk d [sb b.text,i6 b.at_,i6 b.now.kind,i6 b.now.at_,i6 b.now.n,sb b.now.text,h,j,k] 48,.fz (.at 1 0 ((Fl.arr 20 (Fl.int .u64)).f zD)),.fz (.gi 3),.fz (.gi 4)]):
  Calls Tryz.prog 65 ([gX d]:List Value).toArray w (tk flt r (λr e o=>e= .returned (.tuple #[])/\Hd O w o S [.blk d [sb r.text,i6 r.at_,i6 r.now.kind,i6 r.now.at_,i6 r.now.n,sb r.now.text,h,j,k] 48,.own Rp.str h 9 b.r.Phases,.own fC j 65 b.r.Moves,.own fO k 69 b.r.Rules]) λo=>Hd O w o S []):=by
 refine CW 55 Tryz.func65 ?_;refine SR<|zB (gX d)<|nf Z bG<|zM (uZ Z)<|Ld fV H 3 5 Z Z<|zC (sb b.now.text)<|RM<|SR<|zB (sb b.now.text) ?_;obtain⟨⟨l,s⟩,t,a⟩:=yA a;refine cAa (fK Tryz.func95) (E.Fc1w b.now.text _ t _ _ _ (H.W [] [5,6])) λm T u=>?_;have H:=H.back1 [5,6] Z u;refine zB (.tuple #[i6 l,m])<|zM (yR (v:=i6 l) Z Z)<|zM (yR (v:=m) Z Z)<|zC (i6 l)<|zC m<|RM<|zT<|SR<|zB (sb b.now.text)<|bE a λy z a=>RC en73 (Fb3w z (H.W [] [])) H λU H=>zC (vb y)<|RM<|WJ a (λa=>zF<|zB (gX d)<|nf Z bG<|zM (jR Z)<|xu (yE H 3 Z sz3 Z (v:=i6 1) Z Z Z) λV H=>?_) λa=>?_;cases a;exact yH<|zX<|bK Z (dR ⟨Z,H.U [3,0,1,2]⟩);refine SR<|zB (sb b.now.text)<|bE a λA B a=>RC en43 (Fa1w B (H.W [] [])) H λX H=>zC (vb A)<|RM<|WJ a (λa=>zF<|zB (gX d)<|nf Z bG<|zM (jR Z)<|xu (yE H 3 Z sz3 Z (v:=i6 2) Z Z Z) λY H=>?_) λa=>?_;cases a;exact yH<|zX<|bK Z (dR ⟨Z,H.U [3,0,1,2]⟩);refine bE a λC a D=>jo H (rg [31,15]) (λ(g:Unit)=>[(31,vb C)]) (λg=>[]) (rg [0,7]) ?_ ?_;refine zF<|zB m<|RLb a (Do_eqlif ui76 (H.im 7 Z) Z) λ_ a=>bE a λF a I=>RL_cutS 6 [34,35,36,37,38,39] [(39,vb F)] (λwl=>Hd O w wl S [.own Rp.str h 9 b.r.Phases,.own fC j 65 b.r.Moves,.own fO k 69 b.r.Rules,.blk d [sb b.text,i6 b.at_,i6 b.now.kind,i6 b.now.at_,i6 b.now.n,sb b.now.text,h,j,k] 48,.fz (.at 1 0 ((Fl.arr 20 (Fl.int .u64)).f zD)),.fz (.gi 3),.fz (.gi 4),.fz (.ic m s)]) ?_ ?_
 refine RJ a (λa=>zB (i6 l)<|bE a λJ K a=>RC aDw (aEp K (H.W [] [4])) H λ_ H=>zB (sb b.now.text)<|RLb a (yG (s1:=J) (s2:=b.now.text) Z Z) λL a=>pt (vb L) ?_) λa=>?_;cases a;exact jn<|meet ⟨(yD Z yJ),H.U (rg [0,8])⟩;refine zN<|zN<|zN<|zN<|pf (vb false) ?_;cases a;exact jn<|meet ⟨(yD Z yJ),H.U (rg [0,8])⟩;rintro ρ _ H;have a:=I;refine RJ a (λa=>zB (sb b.now.text)<|bE a λM N a=>RC (fK Tryz.func96) (Fc7w N (H.W [] [])) H λ_ H=>RLi a (Do_slen (s1:=M) u9 Z) λ_ a=>aCq a λp a=>pt (vb p)<|zC (vb p) ?_) λa=>?_;cases a;exact jn<|mt () (H.U (rg [0,7]));refine zN<|zN<|zN<|zN<|pf (vb false)<|zC (vb false) ?_;cases a;exact jn<|mt () (H.U (rg [0,7]));rintro _ ρ af H;have H:=un7 H;have a:=D;refine WJ a (λa=>zF<|zB (gX d)<|zB (gX d)<|zB (i6 l)<|nf Z bG<|zM (jR Z)<|xu (yE H 3 Z sz3 Z (v:=i6 3) Z Z Z) λ_ H=>nf Z bG<|zM (fa46_2 Z)<|xu (yE H 3 Z sz3 Z (v:=i6 l) Z Z Z) λ_ H=>?_) λa=>?_;cases a;exact yH<|zX<|bK Z (dR ⟨Z,H.U [3,0,1,2]⟩);refine zF<|zB (gX d) ?_;have P:=H;have H:=H.freezeB (i:=3) Z;have H:=H.freeze (i:=0) Z;have H:=H.freeze (i:=1) Z;have H:=H.freeze (i:=2) Z;have H:=H.fz (.pt fM (some ⟨d,0,none⟩) (some b)) ⟨_,_,_,Z,(H.im 3 Z).1,(H.im 3 Z).2.1,(yT (x:=b) (H.im 0 Z) (H.im 1 Z) (H.im 2 Z)),(H.im 3 Z).2.2⟩;refine bE a λ_ Q a=>yF Z Z (zW aFn Z) (aFo Q (H.W [] [7])) (λc o q G=>by have q:=zY a q;subst q;exact And.intro Z ((H.back [] [7] Z G).U [])) ?_
 rintro _ _ _ q ⟨rfl,R⟩;have a:=yO a q;have H:=P.step (R.only:Only [] _ _);refine⟨_,Z,?_⟩;cases a;exact yH<|zX<|bK Z (dR ⟨Z,H.U [3,0,1,2]⟩)
theorem Fctw {a b:Str}{r:Bool}(c:Fct a b=some r)(H:Hd O w w S []):
  Rt 66 [sb a,sb b] (vb r) w O S []:=by
 refine CW 8 Tryz.func66 ?_;refine SR<|zC (vb false)<|RM<|SR<|zB (sb a)<|zB (sb b)<|bE c λd e c=>RC en97 (Fb0w e (H.W [] [])) H λf H=>zC (vb d)<|RM ?_;cases c;exact zJ<|p1z ⟨Z,H.U []⟩
theorem aCo {k:gB}{h:Nat}{o p s:Value}{r:Except gQ gB}(d:Fab k=some r)(H:Hd O w w S [.own Rp.str o 9 k.r.Phases,.own fC p 65 k.r.Moves,.own fO s 69 k.r.Rules,.blk h [sb k.text,i6 k.at_,i6 k.now.kind,i6 k.now.at_,i6 k.now.n,sb k.now.text,o,p,s] 48,.fz (.at 1 0 ((Fl.arr 20 (Fl.int .u64)).f zD)),.fz (.gi 3),.fz (.gi 4)]):
  Calls Tryz.prog 37 ([gX h]:List Value).toArray w (tk flt r (λr e l=>e= .returned (.tuple #[])/\Hd O w l S [.blk h [sb r.text,i6 r.at_,i6 r.now.kind,i6 r.now.at_,i6 r.now.n,sb r.now.text,o,p,s] 48,.own Rp.str o 9 k.r.Phases,.own fC p 65 k.r.Moves,.own fO s 69 k.r.Rules]) λl=>Hd O w l S []):=by
 refine CW 107 Tryz.func37 ?_;refine SR<|zB (gX h)<|bE d λj E d=>cAz (fK Tryz.func63) (Fblw E (H.W [0,1,2,3] [])) λ_ F=>?_;have H:=un7<|H.back [0,1,2,3] [] rfl F;refine RM<|SR<|zB (gX h)<|nf rfl aY<|Ld fH H 3 1 rfl rfl<|zC (i6 j.at_)<|RM<|SR<|zB (gX h)<|zB (i6 j.at_)<|zM (yB (cs:=[i6 0,i6 j.at_,i6 0,.string (bs [])]) (bt46_0_1 _ _))<|nf rfl bG<|xu (zO (vs:=[i6 0,i6 j.at_,i6 0,.string (bs [])]) H 3 rfl sz46 rfl rfl rfl ⟨rfl,rfl,rfl,rfl,T1⟩ rfl) λ_ H=>RM<|SQ<|SR<|zB (i6 j.at_)<|zB (gX h)<|nf rfl rF<|Ld fV H 3 0 rfl rfl<|RLi d (Do_slen (s1:=j.text) u9 rfl) λ_ d=>fP d λ_ d=>RM<|WJ d (λd=>?_) (λd=>?_);cases d;exact zJ<|zG<|aKm rfl (dR ⟨rfl,H.U [3,4,5,6]⟩);refine WZ<|bE d λu d I=>jo H (rg [23,29]) (λ(g:Unit)=>[]) (λg=>[.blk h [sb j.text,i6 u,i6 0,i6 j.at_,i6 0,.string (bs []),o,p,s] 48]) [1,2,3,0,5,6,7] ?_ ?_;refine zT<|lo d H (rg [23,29]) (λx (y:Unit)=>[]) (λx y=>[.blk h [sb j.text,i6 x,i6 0,i6 j.at_,i6 0,.string (bs []),o,p,s] 48]) [1,2,3,0,5,6,7] () (H.U (rg [0,7])) ?_;clear H d;rintro _ A _ ρ _ H d;have H:=un7 H;refine SQ<|bE d λJ d K=>sJ H (rg [23,22]) [(44,vb J)] ?_ ?_;have B:=H;have H:=H.rb;have ax:=H;refine WP_mix0 H (rg [0,22]) (kz [0,0,0,1,0,0,0,1,0,0,0,0,0,0,1,0,0,0,1,0,4,0]) mixed ?_;refine XM (gX h)<|Xn rfl aY<|XR fH H 3 1 rfl rfl<|XM (gX h)<|Xn rfl rF<|XR fV H 3 0 rfl rfl<|lE d λL M d=>XQ (xC (Do_slen (s1:=j.text) u9 rfl) (congrArg (Value.int .i64) M))<|lE d λN P d=>XQ (tC (nS (a:=A) (b:=L) rfl rfl) P)<|MxM.XL_splitb (b:=N) rfl rfl rfl rfl (λz=>?_) (λz=>?_)
 have d:=wO z d;refine XM (gX h)<|Xn rfl rF<|XR fV H 3 0 rfl rfl<|XM (gX h)<|Xn rfl aY<|XR fH H 3 1 rfl rfl<|bE d λ_ Q d=>XQ (bJ (s1:=j.text) (q:=A) u9 rfl rfl Q) ?_;have R:=H;refine bE d λC T d=>MxM.XL_fcall oS rfl rfl rfl (v:=vb C) (λl t=>zW en64 rfl) (λl t=>bZ (Fcdw T (Hd.fresh0 l))) ?_;have H:=R;refine XQ (pF (v:=vb C) rfl rfl)<|nJ B H λ_ H=>?_;cases d;exact zK<|mt () (H.U (rg [0,7]));have d:=wQ z d;refine XO<|XO<|XO<|MxM.XL_offr oS rfl rfl rfl ?_;refine XO<|XO<|XO<|MxM.XL_offr oS rfl rfl rfl ?_;refine XO<|MxM.XL_offf oS rfl rfl rfl ?_;refine XQ (mF (v:=vb false) rfl rfl)<|nJ B H λa0 H=>?_;cases d;exact zK<|mt () (H.U (rg [0,7]));rintro _ ρ _ H;have d:=K;refine WJ d (λd=>?_) (λd=>?_);exact WZ<|zT<|zF<|zB (gX h)<|nf rfl aY<|Ld fH H 3 1 rfl rfl<|dZ d λU d=>nf rfl aY<|xu (yE H 3 rfl sz3 rfl (v:=i6 U) rfl rfl rfl) λa2 H=>yH<|zX<|zK<|me d () (H.U (rg [0,7]));cases d;exact yL<|zV<|zV<|yC<|zK<|mt () (H.U (rg [0,7]));rintro _ ρ a3 H;have H:=un7 H;have d:=I;refine SQ<|SR<|zB (gX h)<|nf rfl aY<|Ld fH H 3 1 rfl rfl<|zB (i6 j.at_)<|rM d λa4 d=>RM<|WJ d (λd=>?_) (λd=>?_);refine SQ ?_;have V:=H;have H:=H.rb;have a5:=H;refine WP_mix0 H (rg [0,15]) (kz [0,0,0,0,1,0,0,0,0,1,0,0,0,0,3]) mixed ?_;refine XM (gX h)<|XM (gX h)<|Xn rfl rF<|XR fV H 3 0 rfl rfl<|XM (i6 j.at_)<|XM (gX h)<|Xn rfl aY<|XR fH H 3 1 rfl rfl<|bE d λX Y d=>XQ (Do_cut_lh (s1:=j.text) u9 rfl rfl rfl Y)<|Xn rfl bG<|XQ (uZ rfl)<|Xu (λl t=>yE (H.Z t) 3 rfl sz9 rfl (v:=sb X) rfl rfl rfl) λl _ t H=>nJ V H λ_ H=>?_
 refine zK<|KN<|SR<|zB (gX h)<|bE d λ_ aa d=>yF rfl rfl (zW (fK Tryz.func65) rfl) (Fdgw aa (H.W [4,5,6,3] [0,1,2])) (λc l q G=>by have q:=zY d q;subst q;exact And.intro rfl ((H.back [4,5,6,3] [0,1,2] rfl G).U [])) ?_;rintro a9 _ _ q ⟨rfl,ab⟩;have d:=yO d q;have H:=un7<|H.back [4,5,6,3] [0,1,2] rfl ab;refine⟨_,rfl,?_⟩;refine RM ?_;cases d;exact zJ<|zG<|aKm rfl (dR ⟨rfl,H.U [3,4,5,6]⟩);refine WZ<|jk d H (rg [4,1,74,31]) (λx (y:Unit)=>[]) (λx y=>[]) (rg [0,7]) (λ_ d=>?_) ?_;refine SR<|lE d λ_ ac d=>?_;subst ac;refine xv (kl aCf [[60,61],[33,61],[62,61],[60],[61],[62],[40],[41]] u23 el9 H) λ_ bf H=>?_;obtain⟨_,_,ad⟩:=Sr.len (Sr.of_own (H.im 7 rfl));refine RLi d (qY u23 ad) λ_ d=>zB (i6 0)<|RM<|zT<|lo d H (rg [4,1,76,29]) (λx (y:Unit)=>[(76,i6 x)]) (λx y=>[]) (rg [0,8]) () (H.U (rg [0,8])) ?_;clear H d;rintro _ _ _ ρ _ H d;have H:=un8 H;refine SR<|dV d λ_ d=>RM<|SQ<|WJ d (λd=>?_) (λd=>?_);refine WZ<|SQ<|zT<|SR<|bE d λm D d=>?_;obtain⟨_,_,ae,af,ag,ah⟩:=nZ (H.im 7 rfl) D;obtain rfl:ae=[sb m]:=ag;refine ix u23 sz9 af D<|zM (yP fV rfl (Cells.get ah (i:=0) rfl))<|zC (sb m)<|RM<|SR<|zB (gX h)<|nf rfl rF<|Ld fV H 3 0 rfl rfl<|zB (i6 j.at_)<|bE d λ_ ai d=>zM (wL (s1:=j.text) u9 rfl rfl ai)<|zB (sb m)<|bE d λ_ aj d=>RC (fK Tryz.func66) (Fctw aj (H.W [] [])) H λ_ H=>RM<|WJ d (λd=>?_) (λd=>?_);refine SR<|zB (gX h)<|zB (gX h)<|zB (gX h)<|zB (sb m)<|zB (i6 j.at_)<|zB (sb m)<|RLi d (Do_slen (s1:=m) u9 rfl) λ_ d=>dZ d λak d=>nf rfl bG<|zM (jR rfl)<|xu (yE H 3 rfl sz3 rfl (v:=i6 4) rfl rfl rfl) λ_ H=>nf rfl bG<|zM (uZ rfl)<|xu (yE H 3 rfl sz9 rfl (v:=sb m) rfl rfl rfl) λ_ H=>nf rfl aY<|xu (yE H 3 rfl sz3 rfl (v:=i6 ak) rfl rfl rfl) λ_ H=>RM ?_
 cases d;exact zJ<|zQ<|zG<|zG<|zQ<|zG<|aKm rfl (dR ⟨rfl,H.U [3,4,5,6]⟩);exact yN<|zX<|zK<|KN<|zF<|dZ d λal d=>zB (i6 al)<|jn<|me d () (H.U (rg [0,8]));exact yL<|zV<|zV<|yC<|zK<|me d () (H.U (rg [0,7]));rintro _ _ ρ _ H d;have H:=un7 H;refine zF<|zB (gX h) ?_;have am:=H;have H:=H.freezeB (i:=3) rfl;have H:=H.freeze (i:=4) rfl;have H:=H.freeze (i:=5) rfl;have H:=H.freeze (i:=6) rfl;have H:=H.fz (.pt fM (some ⟨h,0,none⟩) (some (gB.mk j.text u (gK.mk 0 j.at_ 0 []) (Rules.mk k.r.Phases k.r.Moves k.r.Rules)))) ⟨_,_,_,rfl,(H.im 3 rfl).1,(H.im 3 rfl).2.1,(yT (x:=gB.mk j.text u (gK.mk 0 j.at_ 0 []) (Rules.mk k.r.Phases k.r.Moves k.r.Rules)) (H.im 4 rfl) (H.im 5 rfl) (H.im 6 rfl)),(H.im 3 rfl).2.2⟩;refine bE d λ_ an d=>yF rfl rfl (zW aFn rfl) (aFo an (H.W [] [7])) (λc l q G=>by have q:=zY d q;subst q;exact And.intro rfl ((H.back [] [7] rfl G).U [])) ?_;rintro _ _ _ q ⟨rfl,ao⟩;have d:=yO d q;have H:=am.step (ao.only:Only [] _ _);refine⟨_,rfl,?_⟩;cases d;exact yH<|bK rfl (dR ⟨rfl,H.U [3,4,5,6]⟩)
theorem aIn {f:Option gB}{d:Str}{c:Option Addr}{r:Bool}(a:Fai f d=some r)(H:Hd O w w S [.fz (.pt fM c f)]):
  Rt 38 [.pointer c,sb d] (vb r) w O S []:=by
 refine CW 28 Tryz.func38 ?_;refine SR<|zC (vb false)<|RM<|bE a λv a x=>jo H (rg [4,24]) (λ(g:Unit)=>[(4,vb v)]) (λg=>[]) [] ?_ ?_;refine zF<|zB (.pointer c)<|bE a λb y a=>?_;obtain⟨h,j,_,z,A,B,C,D⟩:=mQ ((H.im 0 rfl):PtF _ _ _ _ _) y;obtain⟨k,l,m,rfl,E,F,G⟩:=cO C;have H:=H.fzs [.at h j _,.sl Rp.str k b.r.Phases,.sl fC l b.r.Moves,.sl fO m b.r.Rules] ⟨⟨A,B,D⟩,E,F,G,T1⟩;refine zM (dA (ad:=⟨h,j,none⟩) (congrArg Value.pointer z))<|zM (bG rfl)<|zM (jR rfl)<|zM (yP fH rfl (Cells.get (H.im 1 rfl).2.2 (i:=2) rfl))<|fP a λ_ a=>bE a λI a J=>RL_cutS 8 [11,12,13,14,15,16,17,18] [(18,vb I)] (λwl=>Hd O w wl S [.fz (.pt fM c f),.fz (.at h j [sb b.text,i6 b.at_,i6 b.now.kind,i6 b.now.at_,i6 b.now.n,sb b.now.text,k,l,m]),bF k b.r.Phases,mP l b.r.Moves,jS m b.r.Rules]) ?_ ?_;refine RJ a (λa=>?_) (λa=>?_);refine zN<|zN<|zN<|zN<|zN<|zN<|pt (vb true) ?_;cases a;exact jn<|meet ⟨(yD rfl yJ),H.U (rg [0,5])⟩;refine zB (.pointer c)<|bE a λo K a=>?_;obtain⟨p,q,_,L,M,N,P,Q⟩:=mQ ((H.im 0 rfl):PtF _ _ _ _ _) K;obtain⟨R,T,U,rfl,V,X,Y⟩:=cO P;have H:=H.fzs [.at p q _,.sl Rp.str R o.r.Phases,.sl fC T o.r.Moves,.sl fO U o.r.Rules] ⟨⟨M,N,Q⟩,V,X,Y,T1⟩;refine zM (dA (ad:=⟨p,q,none⟩) (congrArg Value.pointer L))<|zM (bG rfl)<|zM (jR rfl)<|zM (yP fH rfl (Cells.get (H.im 5 rfl).2.2 (i:=2) rfl))<|fP a λaa a=>pf (vb aa) ?_;cases a;exact jn<|meet ⟨(yD rfl yJ),H.U (rg [0,5])⟩;rintro ρ _ H;have a:=J;refine RJ a (λa=>?_) (λa=>?_);refine zB (.pointer c)<|bE a λe ab a=>?_
 obtain⟨s,t,_,ac,ae,af,ag,ah⟩:=mQ ((H.im 0 rfl):PtF _ _ _ _ _) ab;obtain⟨ai,aj,ak,rfl,al,am,an⟩:=cO ag;have H:=H.fzs [.at s t _,.sl Rp.str ai e.r.Phases,.sl fC aj e.r.Moves,.sl fO ak e.r.Rules] ⟨⟨ae,af,ah⟩,al,am,an,T1⟩;refine zM (dA (ad:=⟨s,t,none⟩) (congrArg Value.pointer ac))<|zM (bG rfl)<|zM (uZ rfl)<|zM (yP fV rfl (Cells.get (H.im 5 rfl).2.2 (i:=5) rfl))<|zB (sb d)<|RLb a (yG (s1:=e.now.text) (s2:=d) rfl rfl) λu a=>pt (vb u)<|zC (vb u) ?_;cases a;exact jn<|mt () (H.U []);refine zN<|zN<|zN<|zN<|zN<|zN<|zN<|pf (vb false)<|zC (vb false) ?_;cases a;exact jn<|mt () (H.U []);rintro _ ρ _ H;have a:=x;cases a;exact zJ<|p1z ⟨rfl,H.U []⟩
theorem Fbgw {a:gB}{l:Int}{d:Nat}{h j k:Value}{r:Except gQ (gK×gB)}(b:Fbg a l=some r)(H:Hd O w w S [.own Rp.str h 9 a.r.Phases,.own fC j 65 a.r.Moves,.own fO k 69 a.r.Rules,.blk d [sb a.text,i6 a.at_,i6 a.now.kind,i6 a.now.at_,i6 a.now.n,sb a.now.text,h,j,k] 48,.fz (.at 1 0 ((Fl.arr 20 (Fl.int .u64)).f zD)),.fz (.gi 3),.fz (.gi 4)]):
  Calls Tryz.prog 67 ([gX d,i6 l]:List Value).toArray w (tk flt r (λr e g=>e= .returned (.agg [i6 r.1.kind,i6 r.1.at_,i6 r.1.n,sb r.1.text].toArray)/\Hd O w g S [.blk d [sb r.2.text,i6 r.2.at_,i6 r.2.now.kind,i6 r.2.now.at_,i6 r.2.now.n,sb r.2.now.text,h,j,k] 48,.own Rp.str h 9 a.r.Phases,.own fC j 65 a.r.Moves,.own fO k 69 a.r.Rules]) λg=>Hd O w g S []):=by
 refine CW 22 Tryz.func67 ?_;refine SR<|xb (zZ zero46 H) λu v H=>RM<|jk b H (rg [6,9]) (λx (y:Unit)=>[]) (λx y=>[]) (rg [0,8]) (λ_ b=>?_) ?_;refine SR<|zB (gX d)<|nf Z bG<|zM (jR Z)<|Ld fH H 3 2 Z Z<|zB (i6 l)<|aS b λA b=>RM<|WJ b (λb=>zF<|zB (gX d) ?_) λb=>?_;have m:=H;have H:=H.freezeB (i:=3) Z;have H:=H.freeze (i:=0) Z;have H:=H.freeze (i:=1) Z;have H:=H.freeze (i:=2) Z;have H:=H.fz (.pt fM (some ⟨d,0,none⟩) (some a)) ⟨_,_,_,Z,(H.im 3 Z).1,(H.im 3 Z).2.1,(yT (x:=a) (H.im 0 Z) (H.im 1 Z) (H.im 2 Z)),(H.im 3 Z).2.2⟩;refine bE b λB o b=>yF Z Z (zW aFn Z) (aFo o (H.W [] [8])) (λc g q G=>by have q:=zY b q;subst q;exact And.intro Z ((H.back [] [8] Z G).U [])) ?_;rintro _ _ C q ⟨rfl,p⟩;have b:=yO b q;have H:=m.step (p.only:Only [] _ _);refine⟨_,Z,?_⟩;exact jn<|me b () (H.U (rg [0,8]));exact js<|me b () (H.U (rg [0,8]));rintro _ _ ρ D H b;have H:=un8 H;refine SR<|zB (gX d)<|nf Z bG<|zM (xC (yK (cs:=[i6 a.now.kind,i6 a.now.at_,i6 a.now.n,sb a.now.text]) agg46 Z sz46 Z (Cells.drop (Hbc H 3 Z) 2 4)) Z)<|xb (zZ zero46 H) λ_ _ H=>xu (zO (vs:=[i6 a.now.kind,i6 a.now.at_,i6 a.now.n,sb a.now.text]) H 8 Z sz46 Z Z Z ⟨Z,Z,Z,Z,T1⟩ Z) λ_ H=>RM<|SR<|zB (gX d)<|bE b λ_ s b=>yF Z Z (zW aCn Z) (aCo s (H.W [0,1,2,3] [4,5,6])) (λc g q G=>by have q:=zY b q;subst q;exact And.intro Z ((H.back [0,1,2,3] [4,5,6] Z G).U [])) ?_;rintro _ _ _ q ⟨rfl,t⟩
 have b:=yO b q;have H:=un9<|H.back [0,1,2,3] [4,5,6] Z t;refine⟨_,Z,?_⟩;refine RM<|SR<|lb H 4 Z agg46 sz46<|xu (zO (vs:=[i6 a.now.kind,i6 a.now.at_,i6 a.now.n,sb a.now.text]) H 3 Z sz46 Z Z Z ⟨Z,Z,Z,Z,T1⟩ Z) λ_ H=>RM ?_;cases b;exact zJ<|fZ Z Z (zL agg46 sz46 Z (Hbc H 3 Z)) (dR ⟨Z,H.U [5,6,7,8]⟩)
theorem aCh {a:gB}{d:Nat}{g h i:Value}{r:Except gQ (Str×gB)}(b:Faf a=some r)(H:Hd O w w S [.own Rp.str g 9 a.r.Phases,.own fC h 65 a.r.Moves,.own fO i 69 a.r.Rules,.blk d [sb a.text,i6 a.at_,i6 a.now.kind,i6 a.now.at_,i6 a.now.n,sb a.now.text,g,h,i] 48,.fz (.at 1 0 ((Fl.arr 20 (Fl.int .u64)).f zD)),.fz (.gi 3),.fz (.gi 4)]):
  Calls Tryz.prog 39 ([gX d]:List Value).toArray w (tk flt r (λr e j=>e= .returned (sb r.1)/\Hd O w j S [.blk d [sb r.2.text,i6 r.2.at_,i6 r.2.now.kind,i6 r.2.now.at_,i6 r.2.now.n,sb r.2.now.text,g,h,i] 48,.own Rp.str g 9 a.r.Phases,.own fC h 65 a.r.Moves,.own fO i 69 a.r.Rules]) λj=>Hd O w j S []):=by
 refine CW 6 Tryz.func39 ?_;refine SR<|zC (.string (bs []))<|RM<|SR<|zB (gX d)<|bE b λo l b=>yF rfl rfl (zW en67 rfl) (Fbgw l (H.W [0,1,2,3] [4,5,6])) (λc j q G=>by have q:=zY b q;subst q;exact And.intro rfl ((H.back [0,1,2,3] [4,5,6] rfl G).U [])) ?_;rintro⟨k,p⟩ _ s q ⟨rfl,m⟩;have b:=yO b q;have H:=un7<|H.back [0,1,2,3] [4,5,6] rfl m;refine⟨_,rfl,?_⟩;refine zM (Do_field1 (v:=sb k.text) fo46_3 fV rfl rfl)<|zC (sb k.text)<|RM ?_;cases b;exact zJ<|pI rfl rfl (dR ⟨rfl,H.U [3,4,5,6]⟩)
theorem Fasw {b:gB}{l:Str}{d:Nat}{h j k:Value}{r:Except gQ gB}(a:Fas b l=some r)(H:Hd O w w S [.own Rp.str h 9 b.r.Phases,.own fC j 65 b.r.Moves,.own fO k 69 b.r.Rules,.blk d [sb b.text,i6 b.at_,i6 b.now.kind,i6 b.now.at_,i6 b.now.n,sb b.now.text,h,j,k] 48,.fz (.at 1 0 ((Fl.arr 20 (Fl.int .u64)).f zD)),.fz (.gi 3),.fz (.gi 4)]):
  Calls Tryz.prog 40 ([gX d,sb l]:List Value).toArray w (tk flt r (λr e g=>e= .returned (.tuple #[])/\Hd O w g S [.blk d [sb r.text,i6 r.at_,i6 r.now.kind,i6 r.now.at_,i6 r.now.n,sb r.now.text,h,j,k] 48,.own Rp.str h 9 b.r.Phases,.own fC j 65 b.r.Moves,.own fO k 69 b.r.Rules]) λg=>Hd O w g S []):=by
 refine CW 12 Tryz.func40 ?_;refine jk a H (rg [4,6]) (λx (y:Unit)=>[]) (λx y=>[]) (rg [0,7]) (λ_ a=>?_) ?_;refine SR<|zB (gX d)<|zB (sb l) ?_;have m:=H;have H:=H.freezeB (i:=3) Z;have H:=H.freeze (i:=0) Z;have H:=H.freeze (i:=1) Z;have H:=H.freeze (i:=2) Z;have H:=H.fz (.pt fM (some ⟨d,0,none⟩) (some b)) ⟨_,_,_,Z,(H.im 3 Z).1,(H.im 3 Z).2.1,(yT (x:=b) (H.im 0 Z) (H.im 1 Z) (H.im 2 Z)),(H.im 3 Z).2.2⟩;refine bE a λA o a=>RC aHq (aIn o (H.W [] [7])) m λB H=>aB a λC a=>RM<|WJ a (λa=>zF<|zB (gX d) ?_) λa=>?_;have p:=H;have H:=H.freezeB (i:=3) Z;have H:=H.freeze (i:=0) Z;have H:=H.freeze (i:=1) Z;have H:=H.freeze (i:=2) Z;have H:=H.fz (.pt fM (some ⟨d,0,none⟩) (some b)) ⟨_,_,_,Z,(H.im 3 Z).1,(H.im 3 Z).2.1,(yT (x:=b) (H.im 0 Z) (H.im 1 Z) (H.im 2 Z)),(H.im 3 Z).2.2⟩;refine bE a λD s a=>yF Z Z (zW aFn Z) (aFo s (H.W [] [7])) (λc g q G=>by have q:=zY a q;subst q;exact And.intro Z ((H.back [] [7] Z G).U [])) ?_;rintro _ _ _ q ⟨rfl,t⟩;have a:=yO a q;have H:=p.step (t.only:Only [] _ _);refine⟨_,Z,?_⟩;exact jn<|me a () (H.U (rg [0,7]));exact js<|me a () (H.U (rg [0,7]));rintro _ _ ρ _ H a;have H:=un7 H;refine zF<|zB (gX d)<|bE a λ_ u a=>yF Z Z (zW aCn Z) (aCo u (H.W [0,1,2,3] [4,5,6])) (λc g q G=>by have q:=zY a q;subst q;exact And.intro Z ((H.back [0,1,2,3] [4,5,6] Z G).U [])) ?_;rintro _ _ _ q ⟨rfl,v⟩;have a:=yO a q;have H:=un7<|H.back [0,1,2,3] [4,5,6] Z v
 refine⟨_,Z,?_⟩;cases a;exact yH<|bK Z (dR ⟨Z,H.U [3,4,5,6]⟩)
abbrev Fay (f:gB->Int->Option (Except gQ (Cond×gB))):Prop:= ∀(p0:gB) (p1:Int) (b1:Nat) (v2:Value) (v3:Value) (v4:Value) (r:Except gQ (Cond×gB)) (_:f p0 p1=some r) (O S:List Nat) (w:World) (_:Hd O w w S [.own Rp.str v2 9 p0.r.Phases,.own fC v3 65 p0.r.Moves,.own fO v4 69 p0.r.Rules,.blk b1 [sb p0.text,i6 p0.at_,i6 p0.now.kind,i6 p0.now.at_,i6 p0.now.n,sb p0.now.text,v2,v3,v4] 48,.fz (.at 0 0 ((Fl.arr 7 Fl.str).f zU)),.fz (.at 1 0 ((Fl.arr 20 (Fl.int .u64)).f zD)),.fz (.gi 3),.fz (.gi 4)]),
  Calls Tryz.prog 41 ([gX b1,i6 p1]:List Value).toArray w (tk flt r (λr e w'=> ∃u13,e= .returned (.agg [i6 r.1.Kind,sb r.1.Name,sb r.1.Other,i6 r.1.Op,i6 r.1.N,i6 r.1.Frames,u13].toArray)/\Hd O w w' S [dD u13 r.1.Kids,.blk b1 [sb r.2.text,i6 r.2.at_,i6 r.2.now.kind,i6 r.2.now.at_,i6 r.2.now.n,sb r.2.now.text,v2,v3,v4] 48,.own Rp.str v2 9 p0.r.Phases,.own fC v3 65 p0.r.Moves,.own fO v4 69 p0.r.Rules]) λw'=>Hd O w w' S [])
theorem Fbtw {e:List Str}{c:Str}{d:Value}{r:Int}(a:Fbt e c=some r)(H:Hd O w w S [bF d e]):
  Rt 74 [d,sb c] (i6 r) w O S []:=by
 refine CW 19 Tryz.func74 ?_;refine SR<|zC (i6 0)<|RM<|jk a H (rg [4,15]) (λx (y:Unit)=>[]) (λx y=>[]) [] (λi a=>?_) ?_;refine SR<|zB d<|ln a (H.im 0 Z) u23 λj a=>zB (i6 0)<|RM<|zT<|lo a H (rg [4,2,8,11]) (λx (y:Unit)=>[(8,i6 x)]) (λx y=>[]) [0] () (H.U [0]) ?_;clear H a;rintro k b _ ρ l H a;have H:=un1 H;refine SR<|dV a λm a=>RM<|SQ<|WJ a (λa=>WZ<|SQ<|zT<|SR<|zB (i6 b)<|zC (i6 b)<|RM<|SR<|zB (sb c)<|zB d<|zB (i6 b)<|bE a λf g a=>rea H (H.im 0 Z) (sb f) g u23 sz9 fV λn o H=>RLb a (yG (s1:=c) (s2:=f) Z Z) λp a=>RM<|WJ a (λa=>SR<|zB (i6 b)<|zC (i6 b)<|RM ?_) λa=>?_) λa=>?_;cases a;exact zJ<|zQ<|zG<|zG<|zQ<|zG<|p1z ⟨Z,H.U []⟩;exact yN<|zX<|zK<|KN<|zF<|dZ a λh a=>zB (i6 h)<|jn<|me a () (H.U [0]);exact yL<|zV<|zV<|yC<|zK<|me a () (H.U []);rintro _ _ ρ q H a;refine SR<|zC (i6 (-1))<|RM ?_;cases a;exact zJ<|p1z ⟨Z,H.U []⟩
theorem Fbdw {d:List Str}{b:Str}{c:Value}{r:Bool}(a:Fbd d b=some r)(H:Hd O w w S [bF c d]):
  Rt 44 [c,sb b] (vb r) w O S []:=by
 refine CW 9 Tryz.func44 ?_;refine SR<|zC (vb false)<|RM<|SR<|zB c<|zB (sb b)<|bE a λg e a=>RC en74 (Fbtw e (H.W [] [0])) H λh H=>wU a λf a=>zC (vb f)<|RM ?_;cases a;exact zJ<|p1z ⟨Z,H.U []⟩
theorem Fcxw {e:Option gB}{b:Option Addr}{r:Bool}(a:Fcx e=some r)(H:Hd O w w S [.fz (.pt fM b e)]):
  Rt 98 [.pointer b] (vb r) w O S []:=by
 refine CW 21 Tryz.func98 ?_;refine SR<|zC (vb false)<|RM<|SQ<|SR<|zB (.pointer b)<|bE a λc k a=>?_;obtain⟨f,g,V,l,m,n,o,p⟩:=mQ ((H.im 0 Z):PtF _ _ _ _ _) k;obtain⟨q,s,t,rfl,u,v,x⟩:=cO o;have H:=H.fzs [.at f g _,.sl Rp.str q c.r.Phases,.sl fC s c.r.Moves,.sl fO t c.r.Rules] ⟨⟨m,n,p⟩,u,v,x,T1⟩;refine zM (dA (ad:=⟨f,g,none⟩) (congrArg Value.pointer l))<|zM (bG Z)<|zM (jR Z)<|zM (yP fH Z (Cells.get (H.im 1 Z).2.2 (i:=2) Z))<|RM<|zT<|SR<|fP a λy a=>zC (vb y)<|RM<|WJ a (λa=>SR<|zC (vb true)<|RM ?_) λa=>?_;cases a;exact zJ<|zQ<|zG<|p1z ⟨Z,H.U []⟩;refine SR<|fP a λz a=>zC (vb z)<|RM<|WJ a (λa=>SR<|lE a λX A a=>?_) λa=>?_;subst A;refine xv (kl aCf [[116,114,117,101],[102,97,108,115,101],[115,116,101,97,100,121],[112,104,97,115,101],[114,117,108,101],[110,111,116],[102,111,114],[119,105,116,104,105,110],[99,111,117,110,116],[114,105,115,101,115],[115,105,110,99,101]] u23 el9 H) λY _ H=>zB (.pointer b)<|bE a λd B a=>?_;obtain⟨h,j,_,C,D,E,F,G⟩:=mQ ((H.im 0 Z):PtF _ _ _ _ _) B;obtain⟨I,J,K,rfl,L,M,N⟩:=cO F;have H:=H.fzs [.at h j _,.sl Rp.str I d.r.Phases,.sl fC J d.r.Moves,.sl fO K d.r.Rules] ⟨⟨D,E,G⟩,L,M,N,T1⟩;refine zM (dA (ad:=⟨h,j,none⟩) (congrArg Value.pointer C))<|zM (bG Z)<|zM (uZ Z)<|zM (yP fV Z (Cells.get (H.im 6 Z).2.2 (i:=5) Z)) ?_;have P:=H;have H:=H.freeze (i:=5) Z;refine bE a λQ R a=>RC en44 (Fbdw R (H.W [] [5])) P λ_ H=>zC (vb Q)<|RM ?_;cases a;exact zJ<|zQ<|zG<|p1z ⟨Z,H.U []⟩
 refine yN<|zX<|zK<|KN<|SR<|zB (.pointer b)<|bE a λT U a=>RC aHq (aIn U (H.W [] [0])) H λ_ H=>zC (vb T)<|RM ?_;cases a;exact zJ<|p1z ⟨Z,H.U []⟩
theorem aHu {a:gB}{d:Nat}{g h i:Value}{r:Except gQ (Int×gB)}(b:Fap a=some r)(H:Hd O w w S [.own Rp.str g 9 a.r.Phases,.own fC h 65 a.r.Moves,.own fO i 69 a.r.Rules,.blk d [sb a.text,i6 a.at_,i6 a.now.kind,i6 a.now.at_,i6 a.now.n,sb a.now.text,g,h,i] 48,.fz (.at 1 0 ((Fl.arr 20 (Fl.int .u64)).f zD)),.fz (.gi 3),.fz (.gi 4)]):
  Calls Tryz.prog 101 ([gX d]:List Value).toArray w (tk flt r (λr e j=>e= .returned (i6 r.1)/\Hd O w j S [.blk d [sb r.2.text,i6 r.2.at_,i6 r.2.now.kind,i6 r.2.now.at_,i6 r.2.now.n,sb r.2.now.text,g,h,i] 48,.own Rp.str g 9 a.r.Phases,.own fC h 65 a.r.Moves,.own fO i 69 a.r.Rules]) λj=>Hd O w j S []):=by
 refine CW 6 Tryz.func101 ?_;refine SR<|zC (i6 0)<|RM<|SR<|zB (gX d)<|bE b λo l b=>yF rfl rfl (zW en67 rfl) (Fbgw l (H.W [0,1,2,3] [4,5,6])) (λc j q G=>by have q:=zY b q;subst q;exact And.intro rfl ((H.back [0,1,2,3] [4,5,6] rfl G).U [])) ?_;rintro⟨k,p⟩ _ s q ⟨rfl,m⟩;have b:=yO b q;have H:=un7<|H.back [0,1,2,3] [4,5,6] rfl m;refine⟨_,rfl,?_⟩;refine zM (Do_field1 (v:=i6 k.n) fo46_2 fH rfl rfl)<|zC (i6 k.n)<|RM ?_;cases b;exact zJ<|pI rfl rfl (dR ⟨rfl,H.U [3,4,5,6]⟩)
theorem Fdqw {b:gB}{d:Nat}{m o p:Value}{r:Except gQ (Cond×gB)}(a:Fdq b=some r)(H:Hd O w w S [.own Rp.str m 9 b.r.Phases,.own fC o 65 b.r.Moves,.own fO p 69 b.r.Rules,.blk d [sb b.text,i6 b.at_,i6 b.now.kind,i6 b.now.at_,i6 b.now.n,sb b.now.text,m,o,p] 48,.fz (.at 0 0 ((Fl.arr 7 Fl.str).f zU)),.fz (.at 1 0 ((Fl.arr 20 (Fl.int .u64)).f zD)),.fz (.gi 3),.fz (.gi 4)]):
  Calls Tryz.prog 99 ([gX d]:List Value).toArray w (tk flt r (λr e h=> ∃u,e= .returned (.agg [i6 r.1.Kind,sb r.1.Name,sb r.1.Other,i6 r.1.Op,i6 r.1.N,i6 r.1.Frames,u].toArray)/\Hd O w h S [dD u r.1.Kids,.blk d [sb r.2.text,i6 r.2.at_,i6 r.2.now.kind,i6 r.2.now.at_,i6 r.2.now.n,sb r.2.now.text,m,o,p] 48,.own Rp.str m 9 b.r.Phases,.own fC o 65 b.r.Moves,.own fO p 69 b.r.Rules]) λh=>Hd O w h S []):=by
 refine CW 45 Tryz.func99 ?_;refine SR<|xb (zZ dL H) λ_ _ H=>RM<|SR<|zB (gX d)<|bE a λ_ B a=>yF Z Z (zW aCi Z) (aCh B (H.W [0,1,2,3] [5,6,7])) (λc h q G=>by have q:=zY a q;subst q;exact And.intro Z ((H.back [0,1,2,3] [5,6,7] Z G).U [])) ?_;rintro⟨s,j⟩ _ af q ⟨rfl,C⟩;have a:=yO a q;have H:=un9<|H.back [0,1,2,3] [5,6,7] Z C;refine⟨_,Z,?_⟩;refine zM (yB (cs:=[i6 3,sb s,.string (bs []),i6 0,i6 0,i6 0,.slice none 0 0]) (nG _ _))<|xb (zZ dL H) λ_ _ H=>xu (zO (vs:=[i6 3,sb s,.string (bs []),i6 0,i6 0,i6 0,.slice none 0 0]) H 9 Z fA Z Z Z ⟨Z,Z,Z,Z,Z,Z,Z,T1⟩ Z) λ_ H=>RM<|SQ ?_;have D:=H;have H:=H.rb;have aj:=H;refine WP_mix0 H (rg [0,9]) (kz [0,0,0,0,0,1,1,0,3]) mixed ?_;refine MxM.XL_exP Z Z Z (aIc (e:=Fl.str) (X:=zU) (r:=Rp.str) (λ_ _ _ _=>Iff.rfl) Z u100 sz9 (H.im 0 Z).1 (H.im 0 Z).2.1 (H.im 0 Z).2.2 Z (by decide)) ?_;rintro E F;have H:=H.fz (.sl Rp.str E zU.l) F;refine XM (gX d)<|Xn Z bG<|XQ (uZ Z)<|XR fV H 5 5 Z Z ?_;have I:=H;refine bE a λt J a=>MxM.XL_call oS Z Z Z (v:=i6 t) (λh k=>zW en74 Z) (λh k=>bZ (Fbtw J ((H.Z k).W [] [10]))) ?_;have H:=I;refine XQ (nR Z)<|Xu (λh k=>yE (H.Z k) 9 Z sz3 Z (v:=i6 t) Z Z Z) λh _ k H=>nJ D H λ_ H=>?_;refine zK<|KN<|jk a H (rg [15,13]) (λx (y:Unit)=>[]) (λx y=>[]) (rg [0,10]) (λ_ a=>?_) ?_;refine bE a λK a L=>jo H (rg [15,11]) (λ(g:Unit)=>[(25,vb K)]) (λg=>[]) (rg [0,10]) ?_ ?_
 refine zF<|zB (gX d)<|nf Z bG<|zM (jR Z)<|Ld fH H 5 2 Z Z<|aS a λ_ a=>RJ a (λa=>zN<|zN<|zN<|pt (vb true) ?_) λa=>?_;cases a;exact jn<|mt () (H.U (rg [0,10]));refine zM (nR Z)<|Ld fH H 9 3 Z Z<|dV a λM a=>pf (vb M) ?_;cases a;exact jn<|mt () (H.U (rg [0,10]));rintro _ ρ _ H;have H:=qM H;have a:=L;refine WJ a (λa=>zF<|zB (gX d) ?_) λa=>?_;have P:=H;have H:=H.freezeB (i:=5) Z;have H:=H.freeze (i:=6) Z;have H:=H.freeze (i:=7) Z;have H:=H.freeze (i:=8) Z;have H:=H.fz (.pt fM (some ⟨d,0,none⟩) (some (gB.mk j.text j.at_ j.now (Rules.mk b.r.Phases b.r.Moves b.r.Rules)))) ⟨_,_,_,Z,(H.im 5 Z).1,(H.im 5 Z).2.1,(yT (x:=gB.mk j.text j.at_ j.now (Rules.mk b.r.Phases b.r.Moves b.r.Rules)) (H.im 6 Z) (H.im 7 Z) (H.im 8 Z)),(H.im 5 Z).2.2⟩;refine bE a λ_ Q a=>yF Z Z (zW aFn Z) (aFo Q (H.W [] [10])) (λc h q G=>by have q:=zY a q;subst q;exact And.intro Z ((H.back [] [10] Z G).U [])) ?_;rintro _ _ _ q ⟨rfl,R⟩;have a:=yO a q;have H:=P.step (R.only:Only [] _ _);refine⟨_,Z,?_⟩;exact jn<|me a () (H.U (rg [0,10]));exact js<|me a () (H.U (rg [0,10]));rintro _ _ ρ _ H a;have H:=qM H;refine SR<|zB (gX d)<|bE a λ_ T a=>yF Z Z (zW aCn Z) (aCo T (H.W [6,7,8,5] [1,2,3])) (λc h q G=>by have q:=zY a q;subst q;exact And.intro Z ((H.back [6,7,8,5] [1,2,3] Z G).U [])) ?_;rintro _ _ _ q ⟨rfl,U⟩;have a:=yO a q;have H:=qM<|H.back [6,7,8,5] [1,2,3] Z U
 refine⟨_,Z,?_⟩;refine RM<|SQ<|SR<|zB (gX d)<|nf Z bG<|zM (jR Z)<|Ld fH H 6 2 Z Z<|fP a λ_ a=>RM<|WJ a (λa=>SR<|zB (gX d)<|bE a λ_ V a=>yF Z Z (zW aCi Z) (aCh V (H.W [7,8,9,6] [1,2,3])) (λc h q G=>by have q:=zY a q;subst q;exact And.intro Z ((H.back [7,8,9,6] [1,2,3] Z G).U [])) ?_) λa=>?_;rintro⟨z,_⟩ _ a0 q ⟨rfl,Y⟩;have a:=yO a q;have H:=qM<|H.back [7,8,9,6] [1,2,3] Z Y;refine⟨_,Z,?_⟩;refine zM (bW Z)<|xu (yE H 5 Z sz3 Z (v:=i6 4) Z Z Z) λ_ H=>zM (sN Z)<|xu (yE H 5 Z sz9 Z (v:=sb z) Z Z Z) λa2 H=>RM<|SR<|lb H 5 Z fB fA<|xu (zO (vs:=[i6 4,sb s,sb z,i6 t,i6 0,i6 0,.slice none 0 0]) H 4 Z fA Z Z Z ⟨Z,Z,Z,Z,Z,Z,Z,T1⟩ Z) λa3 H=>RM ?_;have H:=H.fz (.sl fD (.slice none 0 0) []) SlF.nil;cases a;exact zJ<|zG<|fZ Z Z (zL fB fA Z (Hbc H 4 Z)) (dR ⟨.slice none 0 0,Z,H.U [10,6,7,8,9]⟩);refine WZ<|SR<|zB (gX d)<|bE a λa4 aa a=>yF Z Z (zW aAy Z) (aHu aa (H.W [7,8,9,6] [1,2,3])) (λc h q G=>by have q:=zY a q;subst q;exact And.intro Z ((H.back [7,8,9,6] [1,2,3] Z G).U [])) ?_;rintro⟨A,a5⟩ _ _ q ⟨rfl,ab⟩;have a:=yO a q;have H:=qM<|H.back [7,8,9,6] [1,2,3] Z ab;refine⟨_,Z,?_⟩;refine zM (kQ Z)<|xu (yE H 5 Z sz3 Z (v:=i6 A) Z Z Z) λ_ H=>RM<|SR<|lb H 5 Z fB fA<|xu (zO (vs:=[i6 3,sb s,.string (bs []),i6 t,i6 A,i6 0,.slice none 0 0]) H 4 Z fA Z Z Z ⟨Z,Z,Z,Z,Z,Z,Z,T1⟩ Z) λ_ H=>RM ?_
 have H:=H.fz (.sl fD (.slice none 0 0) []) SlF.nil;cases a;exact zJ<|fZ Z Z (zL fB fA Z (Hbc H 4 Z)) (dR ⟨.slice none 0 0,Z,H.U [10,6,7,8,9]⟩)
abbrev Fdf (f:gB->Int->Option (Except gQ (Cond×gB))):Prop:= ∀(p0:gB) (p1:Int) (b1:Nat) (v2:Value) (v3:Value) (v4:Value) (r:Except gQ (Cond×gB)) (_:f p0 p1=some r) (O S:List Nat) (w:World) (_:Hd O w w S [.own Rp.str v2 9 p0.r.Phases,.own fC v3 65 p0.r.Moves,.own fO v4 69 p0.r.Rules,.blk b1 [sb p0.text,i6 p0.at_,i6 p0.now.kind,i6 p0.now.at_,i6 p0.now.n,sb p0.now.text,v2,v3,v4] 48,.fz (.at 0 0 ((Fl.arr 7 Fl.str).f zU)),.fz (.at 1 0 ((Fl.arr 20 (Fl.int .u64)).f zD)),.fz (.gi 3),.fz (.gi 4)]),
  Calls Tryz.prog 71 ([gX b1,i6 p1]:List Value).toArray w (tk flt r (λr e w'=> ∃u13,e= .returned (.agg [i6 r.1.Kind,sb r.1.Name,sb r.1.Other,i6 r.1.Op,i6 r.1.N,i6 r.1.Frames,u13].toArray)/\Hd O w w' S [dD u13 r.1.Kids,.blk b1 [sb r.2.text,i6 r.2.at_,i6 r.2.now.kind,i6 r.2.now.at_,i6 r.2.now.n,sb r.2.now.text,v2,v3,v4] 48,.own Rp.str v2 9 p0.r.Phases,.own fC v3 65 p0.r.Moves,.own fO v4 69 p0.r.Rules]) λw'=>Hd O w w' S [])
theorem Faqw (rfA:gB->Int->Option (Except gQ (Cond×gB)))(rhA:Fdf rfA)(m:Int)(b:gB)(o:Int)(p g:Nat)(h j k:Value)(s:Nat)(r:Except gQ ((List Cond)×gB))(a:Faq rfA m b o=some r)(H:Hd O w w S [.own Rp.str h 9 b.r.Phases,.own fC j 65 b.r.Moves,.own fO k 69 b.r.Rules,.blk g [sb b.text,i6 b.at_,i6 b.now.kind,i6 b.now.at_,i6 b.now.n,sb b.now.text,h,j,k] 48,.blk p [gX g] 44,.blk s [i6 o] 3,.fz (.at 0 0 ((Fl.arr 7 Fl.str).f zU)),.fz (.at 1 0 ((Fl.arr 20 (Fl.int .u64)).f zD)),.fz (.gi 3),.fz (.gi 4)]):
  Calls Tryz.prog 100 ([i6 m,gX p,gX s]:List Value).toArray w (tk flt r (λr e l=> ∃u,e= .returned (u)/\Hd O w l S [.own fD u 63 r.1,.blk g [sb r.2.text,i6 r.2.at_,i6 r.2.now.kind,i6 r.2.now.at_,i6 r.2.now.n,sb r.2.now.text,h,j,k] 48,.own Rp.str h 9 b.r.Phases,.own fC j 65 b.r.Moves,.own fO k 69 b.r.Rules,.blk p [gX g] 44,.blk s [i6 o] 3]) λl=>Hd O w l S []):=by
 refine CW 18 Tryz.func100 ?_;refine SR<|zC (.slice none 0 0)<|RM<|SR<|zC (.slice none 0 0)<|RM<|jk a H (rg [5,12]) (λx (y:Value)=>[(5,y)]) (λx y=>[.own fD y 63 x.1,.blk g [sb x.2.1,i6 x.2.2.1,i6 x.2.2.2.1,i6 x.2.2.2.2.1,i6 x.2.2.2.2.2.1,sb x.2.2.2.2.2.2,h,j,k] 48]) (rg [0,1,2,3,1,1,6,6]) (λ_ a=>?_) ?_;refine SR<|zB (i6 m)<|zB (i6 0)<|RM<|zT ?_;have H:=jF H fD 63;refine lo a H (rg [5,1,7,10]) (λx (y:Value)=>[(5,y),(7,i6 x.2.1)]) (λx y=>[.own fD y 63 x.1,.blk g [sb x.2.2.1,i6 x.2.2.2.1,i6 x.2.2.2.2.1,i6 x.2.2.2.2.2.1,i6 x.2.2.2.2.2.2.1,sb x.2.2.2.2.2.2.2,h,j,k] 48]) (rg [0,1,2,3,1,1,6,6]) (.slice none 0 0) (H.U (rg [10,1,0,10])) ?_;clear H a;rintro T ⟨U,V,A,B,C,D,E,F⟩ v ρ X H a;have H:=qC H;refine SR<|dV a λY a=>RM<|SQ<|WJ a (λa=>WZ<|SQ<|zT<|zF<|zB v<|Ld aP H 5 0 Z Z<|Ld fH H 6 0 Z Z<|dZ a λI a=>bE a λ_ J a=>yF Z Z (zW en71 Z) (rhA (gB.mk A B (gK.mk C D E F) (Rules.mk b.r.Phases b.r.Moves b.r.Rules)) I g h j k _ J _ _ _ (H.W [1,2,3,4] [7,8,9,10])) (λc l q G=>by have q:=zY a q;subst q;exact And.intro Z ((H.back [1,2,3,4] [7,8,9,10] Z G).U [])) ?_) λa=>?_;rintro⟨d,_⟩ _ _ q ⟨K,rfl,L⟩;have a:=yO a q;have H:=mZ<|H.back [1,2,3,4] [7,8,9,10] Z L;refine⟨_,Z,?_⟩;refine lE a λ_ M a=>?_;subst M;refine xv (qK fD d [i6 d.Kind,sb d.Name,sb d.Other,i6 d.Op,i6 d.N,i6 d.Frames,K] u61 nM (dX (x:=d) (H.im 7 Z)) H) λ_ af H=>bE a λ_ P a=>xv (aT H (i:=0) Z u61 nM Z Z (Sr.of_own (H.im 12 Z)) P) λz _ H=>zC z<|(yH (zX (zK (KN ?_))))
 exact zF<|dZ a λQ a=>zB (i6 Q)<|jn<|me a z (H.U (rg [0,1,9,3,8,1,1,6]));exact yL<|zV<|zV<|yC<|zK<|me a v (H.U (rg [0,11]));rintro⟨_,_,_,_,_,_,_⟩ t ρ _ H a;have H:=qC H;refine SR<|zB t<|zC t<|RM ?_;cases a;exact zJ<|pI Z Z (dR ⟨t,Z,H.U [0,4,1,2,3,5,6]⟩)
end Go.Proofs.YthgccglopkgghaaGreatDoor.L
