/- Walks that the claim stands on; no condition beyond those stated. -/
import Derived.Test.YtbjofgmdhbiekaaGreatDoorUP
import Derived.Test.YtbjofgmdhbiekaaGreatDoorXVq
import Derived.Test.YtbjofgmdhbiekaaGreatDoorShK
namespace Go.Proofs.YtbjofgmdhbiekaaGreatDoor.L
open Go.RowKit Go.OB Go.Lf
set_option maxRecDepth 100000
set_option maxHeartbeats 4000000
abbrev vb:=Value.bool
theorem T1:True:=trivial
theorem Z {α:Sort _}{a:α}:a=a:=rfl
variable {O S:List Nat}{w:World}
abbrev En (f:FuncId):Prop:=Go.OB.Enters Tryz.prog f
theorem RN {P:Program}{N:Nat}{ops:Array Oper}{y:Code}{K:Env->World->Prop}{Q Q':Exit->Env->World->Prop}{ρ:Env}{w:World}(h: ∀ρ w,WP P N y Q ρ w->K ρ w)(n:WP P N y Q ρ w):RL P N ops (jP K Q') [] ρ w:=eQ (zJ (h _ _ n))
theorem CW {P:Program}{f:FuncId}{fn:Func}{c:Code}{args:List Value}{w:World}{R:Ending->World->Prop}(N:Nat)(hf:P.funcs[f]? =some fn)(h:WP P N c (uY P fn.results R) (aIw args) w)(hb:fn.body=some c:=by exact rfl)(hN:fn.ntmps=N:=by exact rfl)(hl:Nat.ble args.length N=true:=by exact rfl):Calls P f args.toArray w R:=aOt N hf hb hN hl h
theorem mt {W:List Nat}{ρ ρ':Env}{G:Type}{S:G->List (Nat×Value)}{B:G->Prop}(g:G)(h:B g)(hs:Sl ρ' (S g):=by repeat (first |exact yG|refine yA rfl ?_))(hf:Fr W ρ ρ':=by repeat' (first |with_reducible exact aDd|refine aNr rfl ?_|refine aGr rfl rfl ?_)):Fr W ρ ρ'/\ ∃g,Sl ρ' (S g)/\B g:=⟨hf,g,hs,h⟩
theorem ml {W:List Nat}{ρ ρ':Env}{G:Type}{S:G->List (Nat×Value)}{B C:G->Prop}{μ:G->Nat}{n:Nat}(g:G)(h:B g)(c:C g)(hs:Sl ρ' (S g):=by repeat (first |exact yG|refine yA rfl ?_))(hn:μ g<n:=by exact Nat.lt_succ_self _)(hf:Fr W ρ ρ':=by repeat' (first |with_reducible exact aDd|refine aNr rfl ?_|refine aGr rfl rfl ?_)):Fr W ρ ρ'/\ ∃g,Sl ρ' (S g)/\(B g/\C g)/\μ g<n:=⟨hf,g,hs,⟨h,c⟩,hn⟩
def rg:List Nat->List Nat
 |a::n::l=>List.range' a n++rg l
 |_=>[]
section
variable {P:Program}{N:Nat}{ops:Array Oper}{Q Q':Exit->Env->World->Prop}{rest:List Oper}{ρ:Env}{w:World}{d:Nat}{op:Op}{ty:TypeId}{pos:String}{af:Array Edge}{gd:Option (Nat×Bool)}
theorem RLb {β:Type}{b:Bool}{k:Bool->Option β}{r:β}(a:gG b k=some r)(hd:Do P ⟨some d,op,ty,pos,af,gd⟩ ρ w (vb b) w)(n: ∀x,k x=some r->RL P N ops Q rest (upd ρ d (vb x)) w)(hw:fJ N ops ρ ⟨some d,op,ty,pos,af,gd⟩=true:=by exact rfl)(c:Nat.blt d N=true:=by exact rfl):RL P N ops Q (⟨some d,op,ty,pos,af,gd⟩::rest) ρ w:=qZ hw c hd (n b a)
theorem RLi {β:Type}{b:Int}{kk:IntKind}{k:Int->Option β}{r:β}(a:gG b k=some r)(hd:Do P ⟨some d,op,ty,pos,af,gd⟩ ρ w (.int kk b) w)(n: ∀x,k x=some r->RL P N ops Q rest (upd ρ d (.int kk x)) w)(hw:fJ N ops ρ ⟨some d,op,ty,pos,af,gd⟩=true:=by exact rfl)(c:Nat.blt d N=true:=by exact rfl):RL P N ops Q (⟨some d,op,ty,pos,af,gd⟩::rest) ρ w:=qZ hw c hd (n b a)
theorem WI {β:Type}{b:Bool}{x y:Option β}{r:β}{c:Operand}{s t:Code}(a:gI b x y=some r)(hc:ev ρ c=vb b)(ht:x=some r->WP P N s Q ρ w)(hf:y=some r->WP P N t Q ρ w):WP P N (.cond c s t) Q ρ w:=aMe hc (λc=>ht (uK c a)) (λc=>hf (uD c a))
theorem RI {β:Type}{b:Bool}{x y:Option β}{r:β}{z:Operand}(a:gI b x y=some r)(hx:ev ρ z=vb b)(ht:x=some r->RL P N ops Q rest (upd ρ d (vb true)) w)(hf:y=some r->RL P N ops Q rest (upd ρ d (vb false)) w)(hw:fJ N ops ρ ⟨some d,.move z,ty,pos,af,gd⟩=true:=by exact rfl)(e:Nat.blt d N=true:=by exact rfl):RL P N ops Q (⟨some d,.move z,ty,pos,af,gd⟩::rest) ρ w:=RL_splitb hw e hx (λc=>ht (uK c a)) (λc=>hf (uD c a))
theorem RC {f:FuncId}{args:Array Operand}{at_:Array TypeId}{vs:List Value}{v:Value}{O c S:List Nat}{b:World}{l:List Th}(he:Go.OB.Enters P f)(hc:Calls P f vs.toArray w λe a=>e= .returned v/\Hd c w a [] [])(H:Hd O b w S l)(k: ∀a,Hd O b a S l->RL P N ops Q rest (upd ρ d v) a)(ha:args.toList.map (ev ρ)=vs:=by exact rfl)(hw:fJ N ops ρ ⟨some d,.call {callee:= .value (.func f),args:=args,argTypes:=at_},ty,pos,af,gd⟩=true:=by exact rfl)(g:Nat.blt d N=true:=by exact rfl):RL P N ops Q (⟨some d,.call {callee:= .value (.func f),args:=args,argTypes:=at_},ty,pos,af,gd⟩::rest) ρ w:=by
 refine xH hw g (xJ he ha) hc ?_;rintro _ a ⟨rfl,G⟩;exact⟨_,rfl,k _ (H.step G.only)⟩
end
section
variable {P:Program}{N:Nat}{ops:Array Oper}{Q Q':Exit->Env->World->Prop}{rest:List Oper}{ρ:Env}{w:World}{d:Nat}{t u ty:TypeId}{x y:Operand}{pos:String}{af:Array Edge}{g:Option (Nat×Bool)}
def KK (P:Program)(N:Nat)(y:Code)(Q:Exit->Env->World->Prop):Env->World->Prop:=WP P N y Q
theorem SQ {x y:Code}(h:WP P N x (jP (KK P N y Q) Q) ρ w):WP P N (.seq x y) Q ρ w:=aRl h λ_ _ h=>h
theorem SR {id:Nat}{l:List Oper}{y:Code}(h:RL P N l.toArray (jP (KK P N y Q) Q) l ρ w):WP P N (.seq (.region id l.toArray false) y) Q ρ w:=SQ (zF h)
theorem RM {y:Code}(n:WP P N y Q ρ w):RL P N ops (jP (KK P N y Q) Q') [] ρ w:=eQ (zJ n)
theorem WZ {y:Code}(n:WP P N y Q ρ w):WP P N .skip (jP (KK P N y Q) Q') ρ w:=yL (zJ n)
theorem KN {y:Code}(n:WP P N y Q ρ w):KK P N y Q ρ w:=n
theorem jn {K:Env->World->Prop}(n:K ρ w):RL P N ops (jP K Q') [] ρ w:=eQ (zJ n)
theorem js {K:Env->World->Prop}(n:K ρ w):WP P N .skip (jP K Q') ρ w:=yL (zJ n)
theorem fP {a b:Int}{kk:IntKind}{β:Type}{k:Bool->Option β}{r:β}(c:gG (decide (a<b)) k=some r)(n: ∀x,k x=some r->RL P N ops Q rest (upd ρ d (vb x)) w)(hx:ev ρ x= .int kk a:=by exact rfl)(hy:ev ρ y= .int kk b:=by exact rfl)(hw:fJ N ops ρ ⟨some d,.binOp .lss t x y u,ty,pos,af,g⟩=true:=by exact rfl)(e:Nat.blt d N=true:=by exact rfl):RL P N ops Q (⟨some d,.binOp .lss t x y u,ty,pos,af,g⟩::rest) ρ w:=RLb c (aMl hx hy) n hw e
theorem vF {a b:Int}{kk:IntKind}{β:Type}{k:Bool->Option β}{r:β}(c:gG (decide (a<=b)) k=some r)(n: ∀x,k x=some r->RL P N ops Q rest (upd ρ d (vb x)) w)(hx:ev ρ x= .int kk a:=by exact rfl)(hy:ev ρ y= .int kk b:=by exact rfl)(hw:fJ N ops ρ ⟨some d,.binOp .leq t x y u,ty,pos,af,g⟩=true:=by exact rfl)(e:Nat.blt d N=true:=by exact rfl):RL P N ops Q (⟨some d,.binOp .leq t x y u,ty,pos,af,g⟩::rest) ρ w:=RLb c (aBx hx hy) n hw e
theorem jA {a b:Int}{kk:IntKind}{β:Type}{k:Bool->Option β}{r:β}(c:gG (decide (b<a)) k=some r)(n: ∀x,k x=some r->RL P N ops Q rest (upd ρ d (vb x)) w)(hx:ev ρ x= .int kk a:=by exact rfl)(hy:ev ρ y= .int kk b:=by exact rfl)(hw:fJ N ops ρ ⟨some d,.binOp .gtr t x y u,ty,pos,af,g⟩=true:=by exact rfl)(e:Nat.blt d N=true:=by exact rfl):RL P N ops Q (⟨some d,.binOp .gtr t x y u,ty,pos,af,g⟩::rest) ρ w:=RLb c (aCa hx hy) n hw e
theorem nK {a b:Int}{kk:IntKind}{β:Type}{k:Bool->Option β}{r:β}(c:gG (decide (b<=a)) k=some r)(n: ∀x,k x=some r->RL P N ops Q rest (upd ρ d (vb x)) w)(hx:ev ρ x= .int kk a:=by exact rfl)(hy:ev ρ y= .int kk b:=by exact rfl)(hw:fJ N ops ρ ⟨some d,.binOp .geq t x y u,ty,pos,af,g⟩=true:=by exact rfl)(e:Nat.blt d N=true:=by exact rfl):RL P N ops Q (⟨some d,.binOp .geq t x y u,ty,pos,af,g⟩::rest) ρ w:=RLb c (Do_geq hx hy) n hw e
theorem dV {a b:Int}{kk:IntKind}{β:Type}{k:Bool->Option β}{r:β}(c:gG (decide (a=b)) k=some r)(n: ∀x,k x=some r->RL P N ops Q rest (upd ρ d (vb x)) w)(hx:ev ρ x= .int kk a:=by exact rfl)(hy:ev ρ y= .int kk b:=by exact rfl)(hw:fJ N ops ρ ⟨some d,.binOp .eql t x y u,ty,pos,af,g⟩=true:=by exact rfl)(e:Nat.blt d N=true:=by exact rfl):RL P N ops Q (⟨some d,.binOp .eql t x y u,ty,pos,af,g⟩::rest) ρ w:=RLb c (Do_eql hx hy) n hw e
theorem bT {a b:Int}{kk:IntKind}{β:Type}{k:Bool->Option β}{r:β}(c:gG (decide (a≠b)) k=some r)(n: ∀x,k x=some r->RL P N ops Q rest (upd ρ d (vb x)) w)(hx:ev ρ x= .int kk a:=by exact rfl)(hy:ev ρ y= .int kk b:=by exact rfl)(hw:fJ N ops ρ ⟨some d,.binOp .neq t x y u,ty,pos,af,g⟩=true:=by exact rfl)(e:Nat.blt d N=true:=by exact rfl):RL P N ops Q (⟨some d,.binOp .neq t x y u,ty,pos,af,g⟩::rest) ρ w:=RLb c (aSx hx hy) n hw e
theorem fQ {a b:Int}{kk:IntKind}{β:Type}{k:Int->Option β}{r:β}(c:gG (kk.wrap (a+b)) k=some r)(n: ∀x,k x=some r->RL P N ops Q rest (upd ρ d (.int kk x)) w)(hx:ev ρ x= .int kk a:=by exact rfl)(hy:ev ρ y= .int kk b:=by exact rfl)(hw:fJ N ops ρ ⟨some d,.binOp .add t x y u,ty,pos,af,g⟩=true:=by exact rfl)(e:Nat.blt d N=true:=by exact rfl):RL P N ops Q (⟨some d,.binOp .add t x y u,ty,pos,af,g⟩::rest) ρ w:=RLi c (aBp hx hy rfl) n hw e
theorem aGs {a b:Int}{kk:IntKind}{β:Type}{k:Int->Option β}{r:β}(c:gG (kk.wrap (a-b)) k=some r)(n: ∀x,k x=some r->RL P N ops Q rest (upd ρ d (.int kk x)) w)(hx:ev ρ x= .int kk a:=by exact rfl)(hy:ev ρ y= .int kk b:=by exact rfl)(hw:fJ N ops ρ ⟨some d,.binOp .sub t x y u,ty,pos,af,g⟩=true:=by exact rfl)(e:Nat.blt d N=true:=by exact rfl):RL P N ops Q (⟨some d,.binOp .sub t x y u,ty,pos,af,g⟩::rest) ρ w:=RLi c (kX hx hy rfl) n hw e
theorem aLz {a b:Int}{kk:IntKind}{β:Type}{k:Int->Option β}{r:β}(c:gG (kk.wrap (a*b)) k=some r)(n: ∀x,k x=some r->RL P N ops Q rest (upd ρ d (.int kk x)) w)(hx:ev ρ x= .int kk a:=by exact rfl)(hy:ev ρ y= .int kk b:=by exact rfl)(hw:fJ N ops ρ ⟨some d,.binOp .mul t x y u,ty,pos,af,g⟩=true:=by exact rfl)(e:Nat.blt d N=true:=by exact rfl):RL P N ops Q (⟨some d,.binOp .mul t x y u,ty,pos,af,g⟩::rest) ρ w:=RLi c (aBv hx hy rfl) n hw e
theorem sJ {x y:Code}{O S:List Nat}{a b:World}{T:List Th}(_:Hd O a b S T)(W:List Nat)(l:List (Nat×Value))(h:WP P N x (jP (λρ' c=>Fr W ρ ρ'/\ ∃g:Unit,Sl ρ' ((λ_=>l) g)/\(λ_ wl=>Hd O a wl S T) g c) Q) ρ w)(k: ∀(_:Unit) ρ₁ w,Hd O a w S T->WP P N y Q (over ρ ρ₁ W l) w):WP P N (.seq x y) Q ρ w:=aGc W (λ_:Unit=>l) (λ_ wl=>Hd O a wl S T) h k
theorem bE {α β:Type}{p:Prop}{x:Option α}{f:α->Option β}{r:β}(h:gB x f=some r)(k: ∀y,x=some y->f y=some r->p):p:=(yD h).elim λy q=>k y q.1 q.2
theorem lE {α β:Type}{p:Prop}{x:α}{f:α->Option β}{r:β}(h:gG x f=some r)(k: ∀y,x=y->f y=some r->p):p:=(letO_some h).elim λy q=>k y q.1 q.2
theorem XQ {I:World->Prop}{κ:List MxM.Kd}{K:MxM.Mm->Env->World->Prop}{k:Nat}{M:MxM.Mm}{σ:List Nat}{v:Value}{op:Op}(h: ∀{a},Do P ⟨some d,op,ty,pos,af,g⟩ ρ a v a)(n:MxM.XL P I N ops κ K M σ rest (upd ρ d v) w)(hk:MxM.kdOf κ k= .pure:=by exact rfl)(hw:fJ N ops ρ ⟨some d,op,ty,pos,af,g⟩=true:=by exact rfl)(b:Nat.blt d N=true:=by exact rfl):MxM.XL P I N ops κ K M (k::σ) (⟨some d,op,ty,pos,af,g⟩::rest) ρ w:=MxM.XL_pure hk hw b (λ_ _=>h) n
theorem dD {b:Bool}{β:Type}{k:Bool->Option β}{r:β}(a:gG (!b) k=some r)(n: ∀x,k x=some r->RL P N ops Q rest (upd ρ d (vb x)) w)(hx:ev ρ x=vb b:=by exact rfl)(hw:fJ N ops ρ ⟨some d,.unOp .not t x,ty,pos,af,g⟩=true:=by exact rfl)(c:Nat.blt d N=true:=by exact rfl):RL P N ops Q (⟨some d,.unOp .not t x,ty,pos,af,g⟩::rest) ρ w:=RLb a (xX hx) n hw c
theorem pt (v:Value){z:Operand}(n:RL P N ops Q rest (upd ρ d v) w)(hx:ev ρ x=vb true:=by exact rfl)(hy:ev ρ y=v:=by exact rfl)(hw:fJ N ops ρ ⟨some d,.pick x y z,ty,pos,af,g⟩=true:=by exact rfl)(a:Nat.blt d N=true:=by exact rfl):RL P N ops Q (⟨some d,.pick x y z,ty,pos,af,g⟩::rest) ρ w:=qZ hw a (kT hx hy) n
theorem pf (v:Value){z:Operand}(n:RL P N ops Q rest (upd ρ d v) w)(hx:ev ρ x=vb false:=by exact rfl)(hz:ev ρ z=v:=by exact rfl)(hw:fJ N ops ρ ⟨some d,.pick x y z,ty,pos,af,g⟩=true:=by exact rfl)(a:Nat.blt d N=true:=by exact rfl):RL P N ops Q (⟨some d,.pick x y z,ty,pos,af,g⟩::rest) ρ w:=qZ hw a (jO hx hz) n
theorem ix {α:Type}{L:List α}{i:Int}{z:α}{e:TypeId}{b o s c:Nat}{kk:IntKind}(hu:P.underlying t=some (.slice e))(hs:Sz P e s)(hx:ev ρ x= .slice (some ⟨b,o,none⟩) L.length c)(h:at' L i=some z)(n:RL P N ops Q rest (upd ρ d (.pointer (some ⟨b,o+i.toNat*s,none⟩))) w)(hy:ev ρ y= .int kk i:=by exact rfl)(hw:fJ N ops ρ ⟨some d,.indexAddr t x y,ty,pos,af,g⟩=true:=by exact rfl)(a:Nat.blt d N=true:=by exact rfl):RL P N ops Q (⟨some d,.indexAddr t x y,ty,pos,af,g⟩::rest) ρ w:=qZ hw a (bM hu hs hx hy (yO h).1 (yO h).2.1 rfl rfl) n
theorem lb {O S:List Nat}{a:World}{l:List Th}{b T n:Nat}{cs:List Value}(H:Hd O a w S l)(i:Nat)(h:l[i]? =some (.blk b cs T))(c:Agg P t)(hs:Sz P t n)(k:RL P N ops Q rest (upd ρ d (.agg cs.toArray)) w)(hx:ev ρ x= .pointer (some ⟨b,0,none⟩):=by exact rfl)(hl:cs.length=n:=by exact rfl)(hw:fJ N ops ρ ⟨some d,.load t x,ty,pos,af,g⟩=true:=by exact rfl)(e:Nat.blt d N=true:=by exact rfl):RL P N ops Q (⟨some d,.load t x,ty,pos,af,g⟩::rest) ρ w:=qZ hw e (zZ c hx hs hl (Blk.cells (H.V h))) k
theorem WJ {β:Type}{b:Bool}{x y:Option β}{r:β}{c:Operand}{s t:Code}(a:gI b x y=some r)(ht:x=some r->WP P N s Q ρ w)(hf:y=some r->WP P N t Q ρ w)(hc:ev ρ c=vb b:=by exact rfl):WP P N (.cond c s t) Q ρ w:=WI a hc ht hf
theorem RJ {β:Type}{b:Bool}{x y:Option β}{r:β}{z:Operand}(a:gI b x y=some r)(ht:x=some r->RL P N ops Q rest (upd ρ d (vb true)) w)(hf:y=some r->RL P N ops Q rest (upd ρ d (vb false)) w)(hx:ev ρ z=vb b:=by exact rfl)(hw:fJ N ops ρ ⟨some d,.move z,ty,pos,af,g⟩=true:=by exact rfl)(c:Nat.blt d N=true:=by exact rfl):RL P N ops Q (⟨some d,.move z,ty,pos,af,g⟩::rest) ρ w:=RI a hx ht hf hw c
end
abbrev Sm {O S:List Nat}{v w:World}{l:List Th}(_:Hd O v w S l)(w':World)(l':List Th):Prop:=Hd O v w' S l'
section
variable {P:Program}{N:Nat}{Q:Exit->Env->World->Prop}{ρ:Env}{w wo:World}{O S:List Nat}{T:List Th}{X Y β:Type}{r:β}{c x y:Code}
abbrev pj (J:List Nat)(t T:List Th):=Go.Lf.pick J (t++T)
theorem jo (_:Hd O wo w S T)(W:List Nat)(l:Y->List (Nat×Value))(t:Y->List Th)(J:List Nat)(h:WP P N x (jP (λρ' a=>Fr W ρ ρ'/\ ∃z:Y,Sl ρ' (l z)/\Hd O wo a S (pj J (t z) T)) Q) ρ w)(k: ∀z ρ₁ w,Hd O wo w S (pj J (t z) T)->WP P N y Q (over ρ ρ₁ W (l z)) w):WP P N (.seq x y) Q ρ w:=aGc W l (λz wl=>Hd O wo wl S (pj J (t z) T)) h k
theorem jk {b:X->Option β}{m:(X->Option β)->Option β}(a:fK b m=some r)(_:Hd O wo w S T)(W:List Nat)(l:X->Y->List (Nat×Value))(t:X->Y->List Th)(J:List Nat)(h: ∀k:X->Option β,m k=some r->WP P N x (jP (λρ' c=>Fr W ρ ρ'/\ ∃u v,Sl ρ' (l u v)/\Hd O wo c S (pj J (t u v) T)/\k u=some r) Q) ρ w)(k: ∀u v ρ₁ w,Hd O wo w S (pj J (t u v) T)->b u=some r->WP P N y Q (over ρ ρ₁ W (l u v)) w):WP P N (.seq x y) Q ρ w:=by
 refine aGc (G:=X×Y) W (λg=>l g.1 g.2) (λg wl=>Hd O wo wl S (pj J (t g.1 g.2) T)/\b g.1=some r) ((h b a).mono ?_) (λg ρ₁ w hg=>k g.1 g.2 ρ₁ w hg.1 hg.2);intro e ρ' c hq
 cases e<;>first |(obtain⟨d,u,v,f,i,j⟩:=hq;exact⟨d,(u,v),f,i,j⟩)|exact hq
theorem lo {b:(X->Option β)->X->Option β}{d:X}(a:gY b d=some r)(_:Hd O wo w S T)(W:List Nat)(l:X->Y->List (Nat×Value))(t:X->Y->List Th)(J:List Nat)(f:Y)(j:Hd O wo w S (pj J (t d f) T))(n: ∀k u v ρ₁ w,Hd O wo w S (pj J (t u v) T)->b k u=some r->WP P N c (jP (λρ' i=>Fr W ρ ρ'/\ ∃u v,Sl ρ' (l u v)/\Hd O wo i S (pj J (t u v) T)/\k u=some r) Q) (over ρ ρ₁ W (l u v)) w)(hs:Sl ρ (l d f):=by repeat (first |exact yG|refine yA rfl ?_)):WP P N (.loop c) Q ρ w:=by
 obtain⟨B,m,rfl,o⟩:=aRz a;refine aOz (G:=Nat×X×Y) W (λg=>l g.2.1 g.2.2) (λg wl=>Hd O wo wl S (pj J (t g.2.1 g.2.2) T)/\aN B g.1 g.2.1=some r) (λg=>g.1) (m,d,f) hs ⟨j,o⟩ ?_;rintro⟨m,u,v⟩ ρ₁ w ⟨p,h⟩;obtain⟨m,rfl,h⟩:=loopN_pos h;refine(n (aN B m) u v ρ₁ w p h).mono ?_;intro e ρ' i hq
 cases e<;>first |(obtain⟨q,u',v',s,x,y⟩:=hq;exact⟨q,(m,u',v'),s,⟨x,y⟩,Nat.lt_succ_self _⟩)|exact hq
theorem me {W:List Nat}{ρ ρ':Env}{k:X->Option β}{l:X->Y->List (Nat×Value)}{B:X->Y->Prop}{u:X}(a:k u=some r)(y:Y)(h:B u y)(hs:Sl ρ' (l u y):=by repeat (first |exact yG|refine yA rfl ?_))(hf:Fr W ρ ρ':=by repeat' (first |with_reducible exact aDd|refine aNr rfl ?_|refine aGr rfl rfl ?_)):Fr W ρ ρ'/\ ∃u v,Sl ρ' (l u v)/\B u v/\k u=some r:=⟨hf,u,y,hs,h,a⟩
end
section
variable {P:Program}{N:Nat}{ops:Array Oper}{Q:Exit->Env->World->Prop}{rest:List Oper}{ρ:Env}{w wo:World}{d dd:Nat}{op:Op}{t e tt uu ty tyy:TypeId}{x y xx:Operand}{pos poo:String}{af aff:Array Edge}{g gg:Option (Nat×Bool)}{f:FuncId}{args:Array Operand}{at_:Array TypeId}{vs:List Value}{O S:List Nat}{l:List Th}{α β A B C D:Type}{r:β}{v:Value}
theorem xu {R:World->Prop}(h: ∃a,DoU P ⟨none,op,ty,pos,af,g⟩ ρ w a/\R a)(k: ∀a,R a->RL P N ops Q rest ρ a)(hw:fJ N ops ρ ⟨none,op,ty,pos,af,g⟩=true:=by exact rfl):RL P N ops Q (⟨none,op,ty,pos,af,g⟩::rest) ρ w:=RL_exU hw h k
theorem xv {R:Value->World->Prop}(h: ∃v a,Do P ⟨some d,op,ty,pos,af,g⟩ ρ w v a/\R v a)(k: ∀v a,R v a->RL P N ops Q rest (upd ρ d v) a)(hw:fJ N ops ρ ⟨some d,op,ty,pos,af,g⟩=true:=by exact rfl)(hd:Nat.blt d N=true:=by exact rfl):RL P N ops Q (⟨some d,op,ty,pos,af,g⟩::rest) ρ w:=sK hw hd h k
theorem xb {R:Nat->World->Prop}(h: ∃v a,Do P ⟨some d,op,ty,pos,af,g⟩ ρ w v a/\ ∃b,v= .pointer (some ⟨b,0,none⟩)/\R b a)(k: ∀b a,R b a->RL P N ops Q rest (upd ρ d (.pointer (some ⟨b,0,none⟩))) a)(hw:fJ N ops ρ ⟨some d,op,ty,pos,af,g⟩=true:=by exact rfl)(hd:Nat.blt d N=true:=by exact rfl):RL P N ops Q (⟨some d,op,ty,pos,af,g⟩::rest) ρ w:=sK hw hd h λ_ _ ⟨b,e,q⟩=>e▸k b _ q
theorem ln {L:List α}{rr:Rp α}{F:Nat->Prop}{k:Int->Option β}{b:World}(f:gG (L.length:Int) k=some r)(h:SlF rr F b v L)(hu:P.underlying t=some (.slice e))(n: ∀x,k x=some r->RL P N ops Q rest (upd ρ d (.int .i64 x)) w)(hx:ev ρ x=v:=by exact rfl)(hw:fJ N ops ρ ⟨some d,.call {callee:= .builtin .len,args:= #[x],argTypes:= #[t]},ty,pos,af,g⟩=true:=by exact rfl)(i:Nat.blt d N=true:=by exact rfl):RL P N ops Q (⟨some d,.call {callee:= .builtin .len,args:= #[x],argTypes:= #[t]},ty,pos,af,g⟩::rest) ρ w:=by
 obtain⟨a,c,q⟩:=SlF.len h;exact qZ hw i (bQ hu (hx.trans q)) (n _ f)
theorem rea {L:List α}{a:α}{rr:Rp α}{j:Int}{kk:IntKind}(H:Hd O wo w S l)(k:SlF rr (frees O l) w v L)(z:Value)(h:at' L j=some a)(hu:P.underlying t=some (.slice e))(hs:Sz P e 1)(m:wJ P tt)(n: ∀b o,Hd O wo w S (l++[.fz (.at b (o+j.toNat*1) [z])])->RL P N ops Q rest (upd (upd ρ d (.pointer (some ⟨b,o+j.toNat*1,none⟩))) dd z) w)(hc: ∀F w cs,rr.rd F w cs a->cs=[z]:=by exact λ_ _ _ h=>h)(p:rr.sz=1:=by exact rfl)(hx:ev ρ x=v:=by exact rfl)(hy:ev ρ y= .int kk j:=by exact rfl)(r: ∀q,ev (upd ρ d q) xx=q:=by exact λ_=>rfl)(hw:fJ N ops ρ ⟨some d,.indexAddr t x y,ty,pos,af,g⟩=true:=by exact rfl)(hd:Nat.blt d N=true:=by exact rfl)(hv: ∀q,fJ N ops (upd ρ d q) ⟨some dd,.load tt xx,tyy,poo,aff,gg⟩=true:=by exact λ_=>rfl)(s:Nat.blt dd N=true:=by exact rfl):RL P N ops Q (⟨some d,.indexAddr t x y,ty,pos,af,g⟩::⟨some dd,.load tt xx,tyy,poo,aff,gg⟩::rest) ρ w:=by
 obtain⟨b,o,c,cs,q,u,A,B,f⟩:=yY k h;obtain rfl:=hc _ _ _ u;rw [p]at f;refine qZ hw hd (bM hu hs (hx.trans q) hy (yO h).1 (yO h).2.1 rfl rfl) (qZ (hv _) s (yR m (r _) (Cells.get f (i:=0) rfl)) ?_);exact n b o (H.fz (.at b (o+j.toNat*1) [z]) ⟨A,B,f⟩)
theorem cAz {V:Value}{R:World->Prop}(he:Go.OB.Enters P f)(hc:Calls P f vs.toArray w λe a=>e= .returned V/\R a)(n: ∀a,R a->RL P N ops Q rest (upd ρ d V) a)(ha:args.toList.map (ev ρ)=vs:=by exact rfl)(hw:fJ N ops ρ ⟨some d,.call {callee:= .value (.func f),args:=args,argTypes:=at_},ty,pos,af,g⟩=true:=by exact rfl)(b:Nat.blt d N=true:=by exact rfl):RL P N ops Q (⟨some d,.call {callee:= .value (.func f),args:=args,argTypes:=at_},ty,pos,af,g⟩::rest) ρ w:=xH hw b (xJ he ha) hc λ_ _ ⟨e,q⟩=>⟨_,e,n _ q⟩
theorem cAa {V:A->Value}{R:A->World->Prop}(he:Go.OB.Enters P f)(hc:Calls P f vs.toArray w λe b=> ∃a,e= .returned (V a)/\R a b)(n: ∀a b,R a b->RL P N ops Q rest (upd ρ d (V a)) b)(ha:args.toList.map (ev ρ)=vs:=by exact rfl)(hw:fJ N ops ρ ⟨some d,.call {callee:= .value (.func f),args:=args,argTypes:=at_},ty,pos,af,g⟩=true:=by exact rfl)(c:Nat.blt d N=true:=by exact rfl):RL P N ops Q (⟨some d,.call {callee:= .value (.func f),args:=args,argTypes:=at_},ty,pos,af,g⟩::rest) ρ w:=xH hw c (xJ he ha) hc λ_ _ ⟨a,e,q⟩=>⟨_,e,n a _ q⟩
theorem cAb {V:A->B->Value}{R:A->B->World->Prop}(he:Go.OB.Enters P f)(hc:Calls P f vs.toArray w λe c=> ∃a b,e= .returned (V a b)/\R a b c)(n: ∀a b c,R a b c->RL P N ops Q rest (upd ρ d (V a b)) c)(ha:args.toList.map (ev ρ)=vs:=by exact rfl)(hw:fJ N ops ρ ⟨some d,.call {callee:= .value (.func f),args:=args,argTypes:=at_},ty,pos,af,g⟩=true:=by exact rfl)(h:Nat.blt d N=true:=by exact rfl):RL P N ops Q (⟨some d,.call {callee:= .value (.func f),args:=args,argTypes:=at_},ty,pos,af,g⟩::rest) ρ w:=xH hw h (xJ he ha) hc λ_ _ ⟨a,b,e,q⟩=>⟨_,e,n a b _ q⟩
theorem cAc {V:A->B->C->Value}{R:A->B->C->World->Prop}(he:Go.OB.Enters P f)(hc:Calls P f vs.toArray w λe h=> ∃a b c,e= .returned (V a b c)/\R a b c h)(n: ∀a b c h,R a b c h->RL P N ops Q rest (upd ρ d (V a b c)) h)(ha:args.toList.map (ev ρ)=vs:=by exact rfl)(hw:fJ N ops ρ ⟨some d,.call {callee:= .value (.func f),args:=args,argTypes:=at_},ty,pos,af,g⟩=true:=by exact rfl)(i:Nat.blt d N=true:=by exact rfl):RL P N ops Q (⟨some d,.call {callee:= .value (.func f),args:=args,argTypes:=at_},ty,pos,af,g⟩::rest) ρ w:=xH hw i (xJ he ha) hc λ_ _ ⟨a,b,c,e,q⟩=>⟨_,e,n a b c _ q⟩
theorem cAd {V:A->B->C->D->Value}{R:A->B->C->D->World->Prop}(he:Go.OB.Enters P f)(hc:Calls P f vs.toArray w λe h=> ∃a b c z,e= .returned (V a b c z)/\R a b c z h)(n: ∀a b c z h,R a b c z h->RL P N ops Q rest (upd ρ d (V a b c z)) h)(ha:args.toList.map (ev ρ)=vs:=by exact rfl)(hw:fJ N ops ρ ⟨some d,.call {callee:= .value (.func f),args:=args,argTypes:=at_},ty,pos,af,g⟩=true:=by exact rfl)(i:Nat.blt d N=true:=by exact rfl):RL P N ops Q (⟨some d,.call {callee:= .value (.func f),args:=args,argTypes:=at_},ty,pos,af,g⟩::rest) ρ w:=xH hw i (xJ he ha) hc λ_ _ ⟨a,b,c,z,e,q⟩=>⟨_,e,n a b c z _ q⟩
abbrev KOne (rr:Rp α)(f:α->Value):Prop:=(∀F w c x,rr.rd F w c x↔c=[f x])/\rr.sz=1/\ ∀x,(f x).cells= #[f x]
theorem kStr:KOne Rp.str (λs=> .string (bs s)):=⟨λ_ _ _ _=>Iff.rfl,rfl,λ_=>rfl⟩
theorem kInt:KOne (Rp.int .i64) (.int .i64):=⟨λ_ _ _ _=>Iff.rfl,rfl,λ_=>rfl⟩
theorem ll {rr:Rp α}{f:α->Value}(k:KOne rr f){len bytes:Nat}{zs:List Value}{parts:Array (Nat×Operand)}(xl:List α)(hu:P.underlying t=some (.slice e))(he:El P e rr.sz bytes zs)(H:Hd O wo w S l)(hn:xl.length=len:=by exact rfl)(hp:Nat.blt 0 len=true:=by exact rfl)(hs:Nat.ble len 16777216=true:=by exact rfl)(hi:parts.toList.map Prod.fst=List.range len:=by exact rfl)(hv:parts.toList.map (λp=>ev ρ p.2)=xl.map f:=by exact rfl): ∃v b,Do P ⟨some d,.buildSlice t len parts,ty,pos,af,g⟩ ρ w v b/\fF w b/\Hd O wo b S (l++[.own rr v e xl]):=by
 obtain⟨hl,a,hc⟩:=k;have j: ∀xl:List α,aUp 1 (xl.map f):=λxl=>by
  induction xl with
  |nil=>exact True.intro
  |cons x xl ih=>exact⟨by rw [hc];rfl,ih⟩
 have m: ∀xl:List α,rows rr (frees O l) w (xl.map f) xl:=λxl=>by
  induction xl with
  |nil=>rfl
  |cons x xl ih=>exact⟨[f x],_,rfl,(hl _ _ _ _).2 rfl,ih⟩
 have n:(xl.map f).flatMap (λv=>v.cells.toList)=xl.map f:=by
  clear hn hv
  induction xl with
  |nil=>rfl
  |cons x xl ih=>rw [List.map_cons,List.flatMap_cons,ih,hc];rfl
 have c:len*rr.sz<=16777216:=by rw [a,Nat.mul_one];exact Nat.le_of_ble_eq_true hs
 have h:0<len*rr.sz:=by rw [a,Nat.mul_one];exact Nat.le_of_ble_eq_true hp
 have i:kH rr.sz len zs (parts.toList.map λp=>(p.1,ev ρ p.2))=some (xl.map f):=nD (by rw [a];decide) hi hv (by rw [a];exact j xl) n;exact aJs (Lx_bs hu he c h hn i H (m xl)) (aOy hu he c h i)
theorem snd3 {R Y Z:Value->World->Prop}(h: ∃v c,R v c/\Y v c/\Z v c): ∃v c,R v c/\Z v c:=let ⟨v,c,a,_,b⟩:=h;⟨v,c,a,b⟩
theorem kl {rr:Rp α}{f:α->Value}(k:KOne rr f){len bytes:Nat}{zs:List Value}{parts:Array (Nat×Operand)}(xl:List α)(hu:P.underlying t=some (.slice e))(he:El P e rr.sz bytes zs)(H:Hd O wo w S l)(hn:xl.length=len:=by exact rfl)(hp:Nat.blt 0 len=true:=by exact rfl)(hs:Nat.ble len 16777216=true:=by exact rfl)(hi:parts.toList.map Prod.fst=List.range len:=by exact rfl)(hv:parts.toList.map (λp=>ev ρ p.2)=xl.map f:=by exact rfl): ∃v a,Do P ⟨some d,.buildSlice t len parts,ty,pos,af,g⟩ ρ w v a/\Hd O wo a S (l++[.own rr v e xl]):=snd3 (ll k xl hu he H hn hp hs hi hv)
theorem lOne (rr:Rp α)(x:α)(cs:List Value){bytes:Nat}{zs:List Value}{q:Operand}(hu:P.underlying t=some (.slice e))(he:El P e rr.sz bytes zs)(hr:rr.rd (frees O l) w cs x)(H:Hd O wo w S l)(a:cs.length=rr.sz:=by exact rfl)(c:Nat.blt 0 cs.length=true:=by exact rfl)(j:Nat.ble cs.length 16777216=true:=by exact rfl)(hv:ev ρ q= .agg cs.toArray:=by exact rfl): ∃v b,Do P ⟨some d,.buildSlice t 1 #[(0,q)],ty,pos,af,g⟩ ρ w v b/\fF w b/\Hd O wo b S (l++[.own rr v e [x]]):=by
 have f:1*rr.sz<=16777216:=by rw [<-a,Nat.one_mul];exact Nat.le_of_ble_eq_true j
 have h:0<1*rr.sz:=by rw [<-a,Nat.one_mul];exact Nat.le_of_ble_eq_true c
 have i:kH rr.sz 1 zs ((#[(0,q)]:Array (Nat×Operand)).toList.map λp=>(p.1,ev ρ p.2))=some cs:=nD (vs:=[.agg cs.toArray]) (by rw [<-a];exact Nat.le_of_ble_eq_true c) rfl (by simp [hv]) ⟨by rw [<-a];simp [Value.cells],T1⟩ (by simp [Value.cells]);exact aJs (Lx_bs hu he f h rfl i H ⟨cs,[],by simp,hr,rfl⟩) (aOy hu he f h i)
theorem aDl (rr:Rp α)(x:α)(cs:List Value){bytes:Nat}{zs:List Value}{q:Operand}(hu:P.underlying t=some (.slice e))(he:El P e rr.sz bytes zs)(hr:rr.rd (frees O l) w cs x)(H:Hd O wo w S l)(b:cs.length=rr.sz:=by exact rfl)(c:Nat.blt 0 cs.length=true:=by exact rfl)(f:Nat.ble cs.length 16777216=true:=by exact rfl)(hv:ev ρ q= .agg cs.toArray:=by exact rfl): ∃v a,Do P ⟨some d,.buildSlice t 1 #[(0,q)],ty,pos,af,g⟩ ρ w v a/\Hd O wo a S (l++[.own rr v e [x]]):=snd3 (lOne rr x cs hu he hr H b c f hv)
theorem Xu {κ:List MxM.Kd}{K:MxM.Mm->Env->World->Prop}{k:Nat}{M:MxM.Mm}{σ Si:List Nat}{vo:World}{R:World->World->Prop}(h: ∀b,fF w b-> ∃a,DoU P ⟨none,op,ty,pos,af,g⟩ ρ b a/\R b a)(n: ∀b a,fF w b->R b a->MxM.XL P (λa=>Only Si vo a) N ops κ K none σ rest ρ a)(ho: ∀b a,R b a->Only Si vo a:=by exact λ_ _ h=>h.only)(hk:MxM.kdOf κ k= .eff:=by exact rfl)(hw:fJ N ops ρ ⟨none,op,ty,pos,af,g⟩=true:=by exact rfl):MxM.XL P (λa=>Only Si vo a) N ops κ K M (k::σ) (⟨none,op,ty,pos,af,g⟩::rest) ρ w:=MxM.XL_exU oS hk hw h λ_ _ s q=>⟨ho _ _ q,n _ _ s q⟩
theorem Xe {κ:List MxM.Kd}{K:MxM.Mm->Env->World->Prop}{k:Nat}{M:MxM.Mm}{σ Si:List Nat}{vo:World}{R:World->Value->World->Prop}(h: ∀b,fF w b-> ∃v a,Do P ⟨some d,op,ty,pos,af,g⟩ ρ b v a/\R b v a)(n: ∀b v a,fF w b->R b v a->MxM.XL P (λa=>Only Si vo a) N ops κ K none σ rest (upd ρ d v) a)(ho: ∀b v a,R b v a->Only Si vo a:=by exact λ_ _ _ h=>h.only)(hk:MxM.kdOf κ k= .eff:=by exact rfl)(hw:fJ N ops ρ ⟨some d,op,ty,pos,af,g⟩=true:=by exact rfl)(hd:Nat.blt d N=true:=by exact rfl):MxM.XL P (λa=>Only Si vo a) N ops κ K M (k::σ) (⟨some d,op,ty,pos,af,g⟩::rest) ρ w:=MxM.XL_ex oS hk hw hd h λ_ _ _ s q=>⟨ho _ _ _ q,n _ _ _ s q⟩
end
abbrev Cl (f:Nat)(a:List Value)(w:World)(R:Ending->World->Prop):Prop:=Calls Tryz.prog f a.toArray w R
abbrev Rt (f:Nat)(a:List Value)(v:Value)(w:World)(O S:List Nat)(L:List Th):Prop:=Cl f a w λe h=>e= .returned v/\Hd O w h S L
abbrev i6 (n:Int):Value:= .int .i64 n
abbrev sb (s:Str):Value:= .string (bs s)
abbrev f1 {α:Type}(r:Rp α)(v:Value)(l:List α):Th:= .fz (.sl r v l)
theorem Hbc {O S:List Nat}{a w:World}{l:List Th}{b:Nat}{T:TypeId}{cs:List Value}(H:Hd O a w S l)(i:Nat)(h:l[i]? =some (.blk b cs T)):Cells w ⟨b,0,none⟩ cs:=Blk.cells (H.V h)
theorem Hbg {O S:List Nat}{a w:World}{l:List Th}{b:Nat}{T:TypeId}{cs:List Value}{v:Value}(H:Hd O a w S l)(i j:Nat)(h:l[i]? =some (.blk b cs T))(c:cs[j]? =some v):w.cell? ⟨b,0+j,none⟩=some v:=Cells.get (Blk.cells (H.V h)) c
theorem XP {P:Program}{I:World->Prop}{N:Nat}{ops:Array Oper}{κ:List MxM.Kd}{K:MxM.Mm->Env->World->Prop}{k:Nat}{M:MxM.Mm}{σ:List Nat}{rest:List Oper}{ρ:Env}{w:World}{d:Nat}{ty:TypeId}{pos:String}{af:Array Edge}{g:Option (Nat×Bool)}{v:Value}{op:Op}(h: ∀a,I a->Do P ⟨some d,op,ty,pos,af,g⟩ ρ a v a)(n:MxM.XL P I N ops κ K M σ rest (upd ρ d v) w)(hk:MxM.kdOf κ k= .pure:=by exact rfl)(hw:fJ N ops ρ ⟨some d,op,ty,pos,af,g⟩=true:=by exact rfl)(hd:Nat.blt d N=true:=by exact rfl):MxM.XL P I N ops κ K M (k::σ) (⟨some d,op,ty,pos,af,g⟩::rest) ρ w:=MxM.XL_pure hk hw hd h n
theorem XO {P:Program}{I:World->Prop}{N:Nat}{ops:Array Oper}{κ:List MxM.Kd}{K:MxM.Mm->Env->World->Prop}{k:Nat}{M:MxM.Mm}{σ:List Nat}{rest:List Oper}{ρ:Env}{w:World}{d:Nat}{ty:TypeId}{pos:String}{af:Array Edge}{g:Option (Nat×Bool)}{op:Op}(n:MxM.XL P I N ops κ K M σ rest (upd ρ d undef) w)(hk:MxM.kdOf κ k= .pure:=by exact rfl)(hw:fJ N ops ρ ⟨some d,op,ty,pos,af,g⟩=false:=by exact rfl)(hd:Nat.blt d N=true:=by exact rfl):MxM.XL P I N ops κ K M (k::σ) (⟨some d,op,ty,pos,af,g⟩::rest) ρ w:=MxM.XL_offp hk hw hd n
theorem XM {P:Program}{I:World->Prop}{N:Nat}{ops:Array Oper}{κ:List MxM.Kd}{K:MxM.Mm->Env->World->Prop}{k:Nat}{M:MxM.Mm}{σ:List Nat}{rest:List Oper}{ρ:Env}{w:World}{d:Nat}{ty:TypeId}{pos:String}{af:Array Edge}{g:Option (Nat×Bool)}{x:Operand}(v:Value)(n:MxM.XL P I N ops κ K M σ rest (upd ρ d v) w)(hx:ev ρ x=v:=by exact rfl)(hk:MxM.kdOf κ k= .pure:=by exact rfl)(hw:fJ N ops ρ ⟨some d,.move x,ty,pos,af,g⟩=true:=by exact rfl)(hd:Nat.blt d N=true:=by exact rfl):MxM.XL P I N ops κ K M (k::σ) (⟨some d,.move x,ty,pos,af,g⟩::rest) ρ w:=MxM.XL_pure hk hw hd (λ_ _=>jX hx) n
theorem XR {P:Program}{c:World}{e:List Nat}{N:Nat}{ops:Array Oper}{κ:List MxM.Kd}{K:MxM.Mm->Env->World->Prop}{k:Nat}{M:MxM.Mm}{σ:List Nat}{rest:List Oper}{ρ:Env}{w:World}{d:Nat}{ty:TypeId}{pos:String}{af:Array Edge}{g:Option (Nat×Bool)}{t:TypeId}{x:Operand}{O S:List Nat}{f:World}{l:List Th}{b:Nat}{T:TypeId}{cs:List Value}{v:Value}(o:wJ P t)(H:Hd O f w S l)(i j:Nat)(h:l[i]? =some (.blk b cs T))(m:cs[j]? =some v)(n:MxM.XL P (λa=>Only e c a) N ops κ K M σ rest (upd ρ d v) w)(hx:ev ρ x= .pointer (some ⟨b,0+j,none⟩):=by exact rfl)(hk:MxM.kdOf κ k= .read:=by exact rfl)(hw:fJ N ops ρ ⟨some d,.load t x,ty,pos,af,g⟩=true:=by exact rfl)(hd:Nat.blt d N=true:=by exact rfl):MxM.XL P (λa=>Only e c a) N ops κ K M (k::σ) (⟨some d,.load t x,ty,pos,af,g⟩::rest) ρ w:=MxM.yZ oS hk hw hd (λ_ p=>yR o hx (Hbg (H.Z p) i j h m)) n
theorem Ld {P:Program}{N:Nat}{ops:Array Oper}{Q:Exit->Env->World->Prop}{rest:List Oper}{ρ:Env}{w:World}{d:Nat}{t ty:TypeId}{x:Operand}{pos:String}{af:Array Edge}{g:Option (Nat×Bool)}{O S:List Nat}{a:World}{l:List Th}{b:Nat}{T:TypeId}{cs:List Value}{v:Value}(o:wJ P t)(H:Hd O a w S l)(i j:Nat)(h:l[i]? =some (.blk b cs T))(c:cs[j]? =some v)(k:RL P N ops Q rest (upd ρ d v) w)(hx:ev ρ x= .pointer (some ⟨b,0+j,none⟩):=by exact rfl)(hw:fJ N ops ρ ⟨some d,.load t x,ty,pos,af,g⟩=true:=by exact rfl)(hd:Nat.blt d N=true:=by exact rfl):RL P N ops Q (⟨some d,.load t x,ty,pos,af,g⟩::rest) ρ w:=zH (yR o hx (Hbg H i j h c)) k hw hd
theorem fD {f:FuncId}{fn:Func}(h:Tryz.prog.funcs[f]? =some fn)(a:fn.body.isSome=true:=by exact rfl)(b:(fn.name== "runtime.NumGoroutine")=false:=by kernel_rfl):Go.OB.Enters Tryz.prog f:=⟨_,h,a,b⟩
theorem u3:Tryz.prog.underlying 3=some (.int .i64):=Tryz.underlying3
theorem u4:Tryz.prog.underlying 4=some .bool:=Tryz.underlying4
theorem u5:Tryz.prog.underlying 5=some (.int .u8):=Tryz.underlying5
theorem u9:Tryz.prog.underlying 9=some .string:=Tryz.underlying9
theorem u22:Tryz.prog.underlying 22=some (.slice 128):=Tryz.underlying22
theorem u25:Tryz.prog.underlying 25=some (.slice 56):=Tryz.underlying25
theorem u26:Tryz.prog.underlying 26=some (.slice 116):=Tryz.underlying26
theorem u29:Tryz.prog.underlying 29=some (.slice 9):=Tryz.underlying29
theorem u31:Tryz.prog.underlying 31=some (.slice 98):=Tryz.underlying31
theorem u37:Tryz.prog.underlying 37=some (.slice 90):=Tryz.underlying37
theorem u42:Tryz.prog.underlying 42=some (.slice 46):=Tryz.underlying42
theorem u50:Tryz.prog.underlying 50=some (.slice 3):=Tryz.underlying50
theorem u54:Tryz.prog.underlying 54=some (.slice 146):=Tryz.underlying54
theorem u72:Tryz.prog.underlying 72=some (.slice 207):=Tryz.underlying72
theorem u73:Tryz.prog.underlying 73=some (.slice 211):=Tryz.underlying73
theorem u83:Tryz.prog.underlying 83=some (.map 98 4):=Tryz.underlying83
theorem u86:Tryz.prog.underlying 86=some (.slice 166):=Tryz.underlying86
theorem u111:Tryz.prog.underlying 111=some (.int .u16):=Tryz.underlying111
theorem wU:Tryz.prog.underlying 113=some (.array 64 111):=Tryz.underlying113
theorem aQs:Tryz.prog.underlying 114=some (.array 64 3):=Tryz.underlying114
theorem aFp:Tryz.prog.underlying 126=some (.slice 251):=Tryz.underlying126
theorem u131:Tryz.prog.underlying 131=some (.slice 137):=Tryz.underlying131
theorem aSv:Tryz.prog.underlying 135=some (.slice 139):=Tryz.underlying135
theorem aMg:Tryz.prog.underlying 144=some (.slice 197):=Tryz.underlying144
theorem aFm:Tryz.prog.underlying 203=some (.slice 205):=Tryz.underlying203
theorem u231:Tryz.prog.underlying 231=some (.map 282 3):=Tryz.underlying231
theorem u238:Tryz.prog.underlying 238=some (.array 16 116):=Tryz.underlying238
theorem uJ:Tryz.prog.underlying 254=some (.map 3 3):=Tryz.underlying254
theorem u270:Tryz.prog.underlying 270=some (.map 9 4):=Tryz.underlying270
theorem u279:Tryz.prog.underlying 279=some (.slice 282):=Tryz.underlying279
theorem u322:Tryz.prog.underlying 322=some (.array 4 111):=Tryz.underlying322
theorem u331:Tryz.prog.underlying 331=some (.array 7 9):=Tryz.underlying331
theorem aFj:Tryz.prog.underlying 360=some (.map 3 359):=Tryz.underlying360
theorem fo154_2:aAq Tryz.prog 154 2=some (2,3):=by kernel_rfl
theorem fo154_3:aAq Tryz.prog 154 3=some (3,9):=by kernel_rfl
theorem fo342_3:aAq Tryz.prog 342 3=some (3,340):=by kernel_rfl
theorem ui305:Tryz.prog.underlying 305=some (.interface (Tryz.prog.methodsAt 305)):=by kernel_rfl
abbrev szZ (a b:Nat):Prop:=Sz Tryz.prog a b
theorem szO {a b:Nat}(h:Sz Tryz.prog a b:=by unfold Sz;kernel_rfl):szZ a b:=h
theorem sz3:szZ 3 1:=szO
theorem sz4:szZ 4 1:=szO
theorem sz9:szZ 9 1:=szO
theorem aJf:szZ 24 2:=szO
theorem aFq:szZ 28 4:=szO
theorem sz29:szZ 29 1:=szO
theorem sz46:szZ 46 2:=szO
theorem aBt:szZ 56 4:=szO
theorem sz73:szZ 73 1:=szO
theorem aAz:szZ 75 3:=szO
theorem sz85:szZ 85 1:=szO
theorem sz86:szZ 86 1:=szO
theorem kE:szZ 88 2:=szO
theorem aMu:szZ 90 4:=szO
theorem aNp:szZ 98 2:=szO
theorem nC:szZ 111 1:=szO
theorem sz113:szZ 113 64:=szO
theorem sz114:szZ 114 64:=szO
theorem dZ:szZ 116 132:=szO
theorem fZ:szZ 128 8:=szO
theorem sz135:szZ 135 1:=szO
theorem rV:szZ 137 4:=szO
theorem aCh:szZ 139 4:=szO
theorem aBc:szZ 146 4:=szO
theorem aJi:szZ 154 4:=szO
theorem sz158:szZ 158 2:=szO
theorem kR:szZ 166 3:=szO
theorem uP:szZ 197 4:=szO
theorem bY:szZ 205 7:=szO
theorem nR:szZ 211 8:=szO
theorem sz238:szZ 238 2112:=szO
theorem rW:szZ 251 4:=szO
theorem sz270:szZ 270 1:=szO
theorem aKc:szZ 282 3:=szO
theorem sz329:szZ 329 1:=szO
theorem sz333:szZ 333 7:=szO
theorem kF:szZ 342 4:=szO
theorem sz358:szZ 358 1:=szO
abbrev rE (a:Nat):Prop:=wJ Tryz.prog a
theorem sH {a:Nat}(h:wJ Tryz.prog a:=by unfold wJ;kernel_rfl):rE a:=h
theorem fB:rE 3:=sH
theorem wW:rE 4:=sH
theorem kC:rE 9:=sH
theorem aBe:rE 22:=sH
theorem aJx:rE 25:=sH
theorem wP:rE 26:=sH
theorem xZ:rE 29:=sH
theorem one32:rE 32:=sH
theorem one54:rE 54:=sH
theorem one72:rE 72:=sH
theorem wQ:rE 73:=sH
theorem one85:rE 85:=sH
theorem qY:rE 86:=sH
theorem kW:rE 111:=sH
theorem aCb:rE 126:=sH
theorem aLr:rE 135:=sH
theorem aDp:rE 144:=sH
theorem aEo:rE 152:=sH
theorem aEh:rE 203:=sH
theorem one270:rE 270:=sH
theorem one329:rE 329:=sH
theorem one340:rE 340:=sH
theorem aRj:rE 358:=sH
abbrev pW (a:Nat):Prop:=Agg Tryz.prog a
theorem qL {a:Nat}(h:Agg Tryz.prog a:=by unfold Agg;kernel_rfl):pW a:=h
theorem aBi:pW 24:=qL
theorem wR:pW 28:=qL
theorem agg46:pW 46:=qL
theorem aHl:pW 56:=qL
theorem uX:pW 75:=qL
theorem jQ:pW 88:=qL
theorem agg90:pW 90:=qL
theorem aOf:pW 98:=qL
theorem aQv:pW 113:=qL
theorem agg114:pW 114:=qL
theorem rY:pW 116:=qL
theorem eX:pW 128:=qL
theorem aDn:pW 137:=qL
theorem aNe:pW 139:=qL
theorem aDo:pW 146:=qL
theorem aTc:pW 154:=qL
theorem aAb:pW 166:=qL
theorem aDm:pW 197:=qL
theorem aP:pW 205:=qL
theorem aDz:pW 211:=qL
theorem agg238:pW 238:=qL
theorem aEe:pW 251:=qL
theorem aMz:pW 282:=qL
theorem agg333:pW 333:=qL
theorem qF:pW 342:=qL
theorem zero3:Go.OB.Zero Tryz.prog 3 ([i6 0]):=by unfold Go.OB.Zero;kernel_rfl
theorem zero4:Go.OB.Zero Tryz.prog 4 ([vb false]):=by unfold Go.OB.Zero;kernel_rfl
theorem zero29:Go.OB.Zero Tryz.prog 29 ([.slice none 0 0]):=by unfold Go.OB.Zero;kernel_rfl
theorem aRn:Go.OB.Zero Tryz.prog 56 ([.string (bs []),.string (bs []),.slice none 0 0,i6 0]):=by unfold Go.OB.Zero;kernel_rfl
theorem aMs:Go.OB.Zero Tryz.prog 75 ([.slice none 0 0,.slice none 0 0,.slice none 0 0]):=by unfold Go.OB.Zero;kernel_rfl
theorem zero85:Go.OB.Zero Tryz.prog 85 ([.nilFunc]):=by unfold Go.OB.Zero;kernel_rfl
theorem wB:Go.OB.Zero Tryz.prog 88 ([i6 0,.slice none 0 0]):=by unfold Go.OB.Zero;kernel_rfl
theorem zero90:Go.OB.Zero Tryz.prog 90 ([.string (bs []),i6 0,.slice none 0 0,i6 0]):=by unfold Go.OB.Zero;kernel_rfl
theorem zero98:Go.OB.Zero Tryz.prog 98 ([i6 0,i6 0]):=by unfold Go.OB.Zero;kernel_rfl
theorem aCy:Go.OB.Zero Tryz.prog 116 ([i6 0,.int .u16 0,.int .u16 0,.int .u16 0,.int .u16 0,.int .u16 0,.int .u16 0,.int .u16 0,.int .u16 0,.int .u16 0,.int .u16 0,.int .u16 0,.int .u16 0,.int .u16 0,.int .u16 0,.int .u16 0,.int .u16 0,.int .u16 0,.int .u16 0,.int .u16 0,.int .u16 0,.int .u16 0,.int .u16 0,.int .u16 0,.int .u16 0,.int .u16 0,.int .u16 0,.int .u16 0,.int .u16 0,.int .u16 0,.int .u16 0,.int .u16 0,.int .u16 0,.int .u16 0,.int .u16 0,.int .u16 0,.int .u16 0,.int .u16 0,.int .u16 0,.int .u16 0,.int .u16 0,.int .u16 0,.int .u16 0,.int .u16 0,.int .u16 0,.int .u16 0,.int .u16 0,.int .u16 0,.int .u16 0,.int .u16 0,.int .u16 0,.int .u16 0,.int .u16 0,.int .u16 0,.int .u16 0,.int .u16 0,.int .u16 0,.int .u16 0,.int .u16 0,.int .u16 0,.int .u16 0,.int .u16 0,.int .u16 0,.int .u16 0,.int .u16 0,i6 0,i6 0,i6 0,i6 0,i6 0,i6 0,i6 0,i6 0,i6 0,i6 0,i6 0,i6 0,i6 0,i6 0,i6 0,i6 0,i6 0,i6 0,i6 0,i6 0,i6 0,i6 0,i6 0,i6 0,i6 0,i6 0,i6 0,i6 0,i6 0,i6 0,i6 0,i6 0,i6 0,i6 0,i6 0,i6 0,i6 0,i6 0,i6 0,i6 0,i6 0,i6 0,i6 0,i6 0,i6 0,i6 0,i6 0,i6 0,i6 0,i6 0,i6 0,i6 0,i6 0,i6 0,i6 0,i6 0,i6 0,i6 0,i6 0,i6 0,i6 0,i6 0,i6 0,i6 0,vb false,i6 0,vb false]):=by unfold Go.OB.Zero;kernel_rfl
theorem sZ:Go.OB.Zero Tryz.prog 128 ([.string (bs []),i6 0,.slice none 0 0,i6 0,i6 0,i6 0,i6 0,.slice none 0 0]):=by unfold Go.OB.Zero;kernel_rfl
theorem aCt:Go.OB.Zero Tryz.prog 137 ([i6 0,i6 0,i6 0,.slice none 0 0]):=by unfold Go.OB.Zero;kernel_rfl
theorem aNk:Go.OB.Zero Tryz.prog 139 ([i6 0,i6 0,i6 0,i6 0]):=by unfold Go.OB.Zero;kernel_rfl
theorem aVp:Go.OB.Zero Tryz.prog 146 ([i6 0,.slice none 0 0,i6 0,i6 0]):=by unfold Go.OB.Zero;kernel_rfl
theorem aTy:Go.OB.Zero Tryz.prog 154 ([i6 0,i6 0,i6 0,.string (bs [])]):=by unfold Go.OB.Zero;kernel_rfl
theorem zero158:Go.OB.Zero Tryz.prog 158 ([i6 0,i6 0]):=by unfold Go.OB.Zero;kernel_rfl
theorem aAs:Go.OB.Zero Tryz.prog 166 ([i6 0,i6 0,i6 0]):=by unfold Go.OB.Zero;kernel_rfl
theorem aLb:Go.OB.Zero Tryz.prog 197 ([i6 0,i6 0,i6 0,i6 0]):=by unfold Go.OB.Zero;kernel_rfl
theorem sU:Go.OB.Zero Tryz.prog 205 ([i6 0,.string (bs []),.string (bs []),i6 0,i6 0,i6 0,.slice none 0 0]):=by unfold Go.OB.Zero;kernel_rfl
theorem aGj:Go.OB.Zero Tryz.prog 211 ([.string (bs []),i6 0,.string (bs []),.string (bs []),i6 0,i6 0,i6 0,.slice none 0 0]):=by unfold Go.OB.Zero;kernel_rfl
theorem zero238:Go.OB.Zero Tryz.prog 238 ((Fl.arr 16 nX).f (Arr.rep 16 (gU.mk 0 (Arr.rep 64 0:Arr 64 Int) (Arr.rep 64 0:Arr 64 Int) false 0 false):Arr 16 gU)):=by unfold Go.OB.Zero;kernel_rfl
theorem aGg:Go.OB.Zero Tryz.prog 251 ([i6 0,i6 0,i6 0,i6 0]):=by unfold Go.OB.Zero;kernel_rfl
theorem zero270:Go.OB.Zero Tryz.prog 270 ([.map none]):=by unfold Go.OB.Zero;kernel_rfl
theorem zero282:Go.OB.Zero Tryz.prog 282 ([i6 0,i6 0,i6 0]):=by unfold Go.OB.Zero;kernel_rfl
theorem zero329:Go.OB.Zero Tryz.prog 329 ([.nilFunc]):=by unfold Go.OB.Zero;kernel_rfl
theorem aVc:Go.OB.Zero Tryz.prog 333 ([vb false,vb false,vb false,vb false,vb false,i6 0,i6 0]):=by unfold Go.OB.Zero;kernel_rfl
theorem tX:Go.OB.Zero Tryz.prog 342 ([i6 0,i6 0,.nilFunc,.nilFunc]):=by unfold Go.OB.Zero;kernel_rfl
theorem zero358:Go.OB.Zero Tryz.prog 358 ([.nilFunc]):=by unfold Go.OB.Zero;kernel_rfl
theorem el3:El Tryz.prog 3 1 8 ([i6 0]):=⟨by kernel_rfl,by kernel_rfl,by kernel_rfl,by decide,by decide⟩
theorem el9:El Tryz.prog 9 1 16 ([.string (bs [])]):=⟨by kernel_rfl,by kernel_rfl,by kernel_rfl,by decide,by decide⟩
theorem el46:El Tryz.prog 46 2 16 ([i6 0,vb false]):=⟨by kernel_rfl,by kernel_rfl,by kernel_rfl,by decide,by decide⟩
theorem el90:El Tryz.prog 90 4 56 ([.string (bs []),i6 0,.slice none 0 0,i6 0]):=⟨by kernel_rfl,by kernel_rfl,by kernel_rfl,by decide,by decide⟩
theorem el116:El Tryz.prog 116 132 672 ([i6 0,.int .u16 0,.int .u16 0,.int .u16 0,.int .u16 0,.int .u16 0,.int .u16 0,.int .u16 0,.int .u16 0,.int .u16 0,.int .u16 0,.int .u16 0,.int .u16 0,.int .u16 0,.int .u16 0,.int .u16 0,.int .u16 0,.int .u16 0,.int .u16 0,.int .u16 0,.int .u16 0,.int .u16 0,.int .u16 0,.int .u16 0,.int .u16 0,.int .u16 0,.int .u16 0,.int .u16 0,.int .u16 0,.int .u16 0,.int .u16 0,.int .u16 0,.int .u16 0,.int .u16 0,.int .u16 0,.int .u16 0,.int .u16 0,.int .u16 0,.int .u16 0,.int .u16 0,.int .u16 0,.int .u16 0,.int .u16 0,.int .u16 0,.int .u16 0,.int .u16 0,.int .u16 0,.int .u16 0,.int .u16 0,.int .u16 0,.int .u16 0,.int .u16 0,.int .u16 0,.int .u16 0,.int .u16 0,.int .u16 0,.int .u16 0,.int .u16 0,.int .u16 0,.int .u16 0,.int .u16 0,.int .u16 0,.int .u16 0,.int .u16 0,.int .u16 0,i6 0,i6 0,i6 0,i6 0,i6 0,i6 0,i6 0,i6 0,i6 0,i6 0,i6 0,i6 0,i6 0,i6 0,i6 0,i6 0,i6 0,i6 0,i6 0,i6 0,i6 0,i6 0,i6 0,i6 0,i6 0,i6 0,i6 0,i6 0,i6 0,i6 0,i6 0,i6 0,i6 0,i6 0,i6 0,i6 0,i6 0,i6 0,i6 0,i6 0,i6 0,i6 0,i6 0,i6 0,i6 0,i6 0,i6 0,i6 0,i6 0,i6 0,i6 0,i6 0,i6 0,i6 0,i6 0,i6 0,i6 0,i6 0,i6 0,i6 0,i6 0,i6 0,i6 0,i6 0,vb false,i6 0,vb false]):=⟨by kernel_rfl,by kernel_rfl,by kernel_rfl,by decide,by decide⟩
theorem el128:El Tryz.prog 128 8 104 ([.string (bs []),i6 0,.slice none 0 0,i6 0,i6 0,i6 0,i6 0,.slice none 0 0]):=⟨by kernel_rfl,by kernel_rfl,by kernel_rfl,by decide,by decide⟩
theorem el137:El Tryz.prog 137 4 48 ([i6 0,i6 0,i6 0,.slice none 0 0]):=⟨by kernel_rfl,by kernel_rfl,by kernel_rfl,by decide,by decide⟩
theorem el139:El Tryz.prog 139 4 32 ([i6 0,i6 0,i6 0,i6 0]):=⟨by kernel_rfl,by kernel_rfl,by kernel_rfl,by decide,by decide⟩
theorem aEw:El Tryz.prog 166 3 24 ([i6 0,i6 0,i6 0]):=⟨by kernel_rfl,by kernel_rfl,by kernel_rfl,by decide,by decide⟩
theorem el205:El Tryz.prog 205 7 88 ([i6 0,.string (bs []),.string (bs []),i6 0,i6 0,i6 0,.slice none 0 0]):=⟨by kernel_rfl,by kernel_rfl,by kernel_rfl,by decide,by decide⟩
theorem aNw:El Tryz.prog 211 8 104 ([.string (bs []),i6 0,.string (bs []),.string (bs []),i6 0,i6 0,i6 0,.slice none 0 0]):=⟨by kernel_rfl,by kernel_rfl,by kernel_rfl,by decide,by decide⟩
theorem el282:El Tryz.prog 282 3 24 ([i6 0,i6 0,i6 0]):=⟨by kernel_rfl,by kernel_rfl,by kernel_rfl,by decide,by decide⟩
theorem aRm:Tryz.prog.built 88 []=some ([i6 0,.slice none 0 0]).toArray:=by kernel_rfl
theorem bz128:Tryz.prog.built 128 []=some ([.string (bs []),i6 0,.slice none 0 0,i6 0,i6 0,i6 0,i6 0,.slice none 0 0]).toArray:=by kernel_rfl
theorem bz166:Tryz.prog.built 166 []=some ([i6 0,i6 0,i6 0]).toArray:=by kernel_rfl
theorem bt24_1 (a:Option Addr)(b c:Nat):Tryz.prog.built 24 [(1,.slice a b c)]=some [i6 0,.slice a b c].toArray:=by kernel_rfl
theorem bt46_0_1 (a:Int)(b:Bool):Tryz.prog.built 46 [(0,i6 a),(1,vb b)]=some [i6 a,vb b].toArray:=by kernel_rfl
theorem bt88_0 (a:Int):Tryz.prog.built 88 [(0,i6 a)]=some [i6 a,.slice none 0 0].toArray:=by kernel_rfl
theorem aPg (a:Int)(b:Option Addr)(c d:Nat):Tryz.prog.built 88 [(0,i6 a),(1,.slice b c d)]=some [i6 a,.slice b c d].toArray:=by kernel_rfl
theorem aRf (a:Str)(b:Int)(c:Option Addr)(d e:Nat)(f:Int):Tryz.prog.built 90 [(0,sb a),(1,.agg [i6 b,.slice c d e].toArray),(2,i6 f)]=some [sb a,i6 b,.slice c d e,i6 f].toArray:=by kernel_rfl
theorem bt98_0_1 (a b:Int):Tryz.prog.built 98 [(0,i6 a),(1,i6 b)]=some [i6 a,i6 b].toArray:=by kernel_rfl
theorem bt116_0 (a:Int):Tryz.prog.built 116 [(0,i6 a)]=some [i6 a,.int .u16 0,.int .u16 0,.int .u16 0,.int .u16 0,.int .u16 0,.int .u16 0,.int .u16 0,.int .u16 0,.int .u16 0,.int .u16 0,.int .u16 0,.int .u16 0,.int .u16 0,.int .u16 0,.int .u16 0,.int .u16 0,.int .u16 0,.int .u16 0,.int .u16 0,.int .u16 0,.int .u16 0,.int .u16 0,.int .u16 0,.int .u16 0,.int .u16 0,.int .u16 0,.int .u16 0,.int .u16 0,.int .u16 0,.int .u16 0,.int .u16 0,.int .u16 0,.int .u16 0,.int .u16 0,.int .u16 0,.int .u16 0,.int .u16 0,.int .u16 0,.int .u16 0,.int .u16 0,.int .u16 0,.int .u16 0,.int .u16 0,.int .u16 0,.int .u16 0,.int .u16 0,.int .u16 0,.int .u16 0,.int .u16 0,.int .u16 0,.int .u16 0,.int .u16 0,.int .u16 0,.int .u16 0,.int .u16 0,.int .u16 0,.int .u16 0,.int .u16 0,.int .u16 0,.int .u16 0,.int .u16 0,.int .u16 0,.int .u16 0,.int .u16 0,i6 0,i6 0,i6 0,i6 0,i6 0,i6 0,i6 0,i6 0,i6 0,i6 0,i6 0,i6 0,i6 0,i6 0,i6 0,i6 0,i6 0,i6 0,i6 0,i6 0,i6 0,i6 0,i6 0,i6 0,i6 0,i6 0,i6 0,i6 0,i6 0,i6 0,i6 0,i6 0,i6 0,i6 0,i6 0,i6 0,i6 0,i6 0,i6 0,i6 0,i6 0,i6 0,i6 0,i6 0,i6 0,i6 0,i6 0,i6 0,i6 0,i6 0,i6 0,i6 0,i6 0,i6 0,i6 0,i6 0,i6 0,i6 0,i6 0,i6 0,i6 0,i6 0,i6 0,i6 0,vb false,i6 0,vb false].toArray:=by kernel_rfl
theorem aPo (a b c:Int):Tryz.prog.built 137 [(0,i6 a),(1,i6 b),(2,i6 c)]=some [i6 a,i6 b,i6 c,.slice none 0 0].toArray:=by kernel_rfl
theorem aIt (a b c d:Int):Tryz.prog.built 139 [(0,i6 a),(1,i6 b),(2,i6 c),(3,i6 d)]=some [i6 a,i6 b,i6 c,i6 d].toArray:=by kernel_rfl
theorem bt154_0_1 (a b:Int):Tryz.prog.built 154 [(0,i6 a),(1,i6 b)]=some [i6 a,i6 b,i6 0,.string (bs [])].toArray:=by kernel_rfl
theorem bt156_0 (a:Str):Tryz.prog.built 156 [(0,sb a)]=some [sb a,i6 0,i6 0,i6 0,i6 0,.string (bs []),.slice none 0 0,.slice none 0 0,.slice none 0 0].toArray:=by kernel_rfl
theorem aVa (a:Int):Tryz.prog.built 166 [(0,i6 a)]=some [i6 a,i6 0,i6 0].toArray:=by kernel_rfl
theorem aEz (a b c:Int):Tryz.prog.built 166 [(0,i6 a),(1,i6 b),(2,i6 c)]=some [i6 a,i6 b,i6 c].toArray:=by kernel_rfl
theorem bt205_0_1 (a:Int)(b:Str):Tryz.prog.built 205 [(0,i6 a),(1,sb b)]=some [i6 a,sb b,.string (bs []),i6 0,i6 0,i6 0,.slice none 0 0].toArray:=by kernel_rfl
theorem bt211_0 (a:Str):Tryz.prog.built 211 [(0,sb a)]=some [sb a,i6 0,.string (bs []),.string (bs []),i6 0,i6 0,i6 0,.slice none 0 0].toArray:=by kernel_rfl
theorem aPa (a b c:Int):Tryz.prog.built 282 [(0,i6 a),(1,i6 b),(2,i6 c)]=some [i6 a,i6 b,i6 c].toArray:=by kernel_rfl
theorem aPu (a b c:Bool):Tryz.prog.built 333 [(0,vb a),(2,vb b),(3,vb c)]=some [vb a,vb false,vb b,vb c,vb false,i6 0,i6 0].toArray:=by kernel_rfl
abbrev gQ (b:Nat):Value:= .pointer (some ⟨b,0,none⟩)
def FAt (t i m:Nat):Prop:= ∀{ρ:Env}{w:World}{d:Option Tmp}{x:Operand}{ty:TypeId}{pos:String}{af:Array Edge}{g:Option (Nat×Bool)}{b o:Nat} (_:ev ρ x= .pointer (some ⟨b,o,none⟩)),Do Tryz.prog ⟨d,.fieldAddr t x i,ty,pos,af,g⟩ ρ w (.pointer (some ⟨b,o+m,none⟩)) w
theorem faO {t i m:Nat}(n:Nat)(h:aHc Tryz.prog t i=some (m,some n):=by kernel_rfl)(hn:n≠0:=by decide):FAt t i m:=λhx=>aJd h hn hx
theorem fa24_0:FAt 24 0 0:=faO 1
theorem uB:FAt 24 1 1:=faO 1
theorem aIq:FAt 28 0 0:=faO 2
theorem aEa:FAt 28 1 2:=faO 1
theorem qU:FAt 28 2 3:=faO 1
theorem fa46_1:FAt 46 1 1:=faO 1
theorem aLy:FAt 56 0 0:=faO 1
theorem fa56_1:FAt 56 1 1:=faO 1
theorem aQt:FAt 56 2 2:=faO 1
theorem fa56_3:FAt 56 3 3:=faO 1
theorem fa75_0:FAt 75 0 0:=faO 1
theorem aQx:FAt 75 1 1:=faO 1
theorem nS:FAt 75 2 2:=faO 1
theorem aRw:FAt 88 0 0:=faO 1
theorem kM:FAt 88 1 1:=faO 1
theorem aSb:FAt 90 0 0:=faO 1
theorem fa90_1:FAt 90 1 1:=faO 2
theorem fa90_2:FAt 90 2 3:=faO 1
theorem fa98_0:FAt 98 0 0:=faO 1
theorem fa98_1:FAt 98 1 1:=faO 1
theorem kL:FAt 116 0 0:=faO 1
theorem vY:FAt 116 1 1:=faO 64
theorem wM:FAt 116 2 65:=faO 64
theorem aFy:FAt 116 3 129:=faO 1
theorem aUg:FAt 116 4 130:=faO 1
theorem fa116_5:FAt 116 5 131:=faO 1
theorem aDe:FAt 128 0 0:=faO 1
theorem wF:FAt 128 1 1:=faO 1
theorem wL:FAt 128 2 2:=faO 1
theorem aTv:FAt 128 3 3:=faO 1
theorem aMi:FAt 128 4 4:=faO 1
theorem vP:FAt 128 5 5:=faO 1
theorem aCq:FAt 128 6 6:=faO 1
theorem vX:FAt 128 7 7:=faO 1
theorem fa137_1:FAt 137 1 1:=faO 1
theorem fa137_2:FAt 137 2 2:=faO 1
theorem aDi:FAt 137 3 3:=faO 1
theorem aVl:FAt 139 0 0:=faO 1
theorem aMp:FAt 139 1 1:=faO 1
theorem aVk:FAt 139 2 2:=faO 1
theorem aNm:FAt 139 3 3:=faO 1
theorem aTx:FAt 146 0 0:=faO 1
theorem aAt:FAt 146 1 1:=faO 1
theorem aLl:FAt 146 2 2:=faO 1
theorem aLs:FAt 146 3 3:=faO 1
theorem jZ:FAt 154 0 0:=faO 1
theorem fa154_2:FAt 154 2 2:=faO 1
theorem aCc:FAt 154 3 3:=faO 1
theorem vO:FAt 156 0 0:=faO 1
theorem mF:FAt 156 1 1:=faO 1
theorem cZ:FAt 156 2 2:=faO 4
theorem aGl:FAt 156 3 6:=faO 3
theorem fa158_1:FAt 158 1 1:=faO 1
theorem rD:FAt 166 0 0:=faO 1
theorem aAr:FAt 166 1 1:=faO 1
theorem sS:FAt 166 2 2:=faO 1
theorem aCf:FAt 197 0 0:=faO 1
theorem aCi:FAt 197 1 1:=faO 1
theorem aVn:FAt 197 2 2:=faO 1
theorem aTk:FAt 197 3 3:=faO 1
theorem tN:FAt 205 0 0:=faO 1
theorem aVg:FAt 205 1 1:=faO 1
theorem fa205_2:FAt 205 2 2:=faO 1
theorem aMj:FAt 205 3 3:=faO 1
theorem aUt:FAt 205 4 4:=faO 1
theorem fa205_5:FAt 205 5 5:=faO 1
theorem aAj:FAt 205 6 6:=faO 1
theorem aAp:FAt 211 0 0:=faO 1
theorem aCo:FAt 211 1 1:=faO 7
theorem aLg:FAt 251 0 0:=faO 1
theorem aMb:FAt 251 1 1:=faO 1
theorem aMm:FAt 251 2 2:=faO 1
theorem aMn:FAt 251 3 3:=faO 1
theorem aVd:FAt 333 0 0:=faO 1
theorem aUu:FAt 333 1 1:=faO 1
theorem aVi:FAt 333 2 2:=faO 1
theorem aUd:FAt 333 3 3:=faO 1
theorem aUl:FAt 333 4 4:=faO 1
theorem fa333_5:FAt 333 5 5:=faO 1
theorem fa333_6:FAt 333 6 6:=faO 1
theorem eqf3:EqF Tryz.prog 3 (Fl.int .i64) 1:=EqF.int Tryz.underlying3
theorem eqf4:EqF Tryz.prog 4 Fl.bool 1:=EqF.bool Tryz.underlying4
theorem eqf98:EqF Tryz.prog 98 qQ 2:=EqF.struct (k:=1) (λx y h=>by cases x;cases y;simp_all) Tryz.underlying98 (by kernel_rfl) (by unfold Sz;kernel_rfl) ((aEj.cons rfl (by decide) (eqf3.up (by decide)) (aEj.one rfl (by decide) (eqf3.up (by decide)))))
theorem eqf282:EqF Tryz.prog 282 dB 2:=EqF.struct (k:=1) (λx y h=>by cases x;cases y;simp_all) Tryz.underlying282 (by kernel_rfl) (by unfold Sz;kernel_rfl) ((aEj.cons rfl (by decide) (eqf3.up (by decide)) ((aEj.cons rfl (by decide) (eqf3.up (by decide)) (aEj.one rfl (by decide) (eqf3.up (by decide)))))))
theorem eqf46:EqF Tryz.prog 46 aUw 2:=EqF.struct (k:=1) (λx y h=>by cases x;cases y;simp_all) Tryz.underlying46 (by kernel_rfl) (by unfold Sz;kernel_rfl) ((aEj.cons rfl (by decide) (eqf3.up (by decide)) (aEj.one rfl (by decide) (eqf4.up (by decide)))))
theorem wk98:WK Tryz.prog 98 qQ:=⟨⟨_,Tryz.underlying98,λ_ _=>rfl⟩,λb a w=>by kernel_rfl,⟨_,by decide,eqf98⟩,aOf,aNp,λa=>by exact sb_of rfl⟩
theorem wk282:WK Tryz.prog 282 dB:=⟨⟨_,Tryz.underlying282,λ_ _=>rfl⟩,λb a w=>by kernel_rfl,⟨_,by decide,eqf282⟩,aMz,aKc,λa=>by exact sb_of rfl⟩
abbrev bI:=f1 Rp.str
abbrev mJ:=f1 qJ
abbrev qC:=f1 jU
abbrev rG:=f1 sG
abbrev rO:=f1 jB
abbrev uA:=f1 fU
abbrev wS:=f1 fO
abbrev aAy:=f1 fM
abbrev aDj:=f1 qP
abbrev aOc:=f1 dX
abbrev aKn:=f1 (Rp.int .i64)
section
variable {O S:List Nat}{v w:World}{a b c d e f g i j k l m:Th}
abbrev hh (p:Prop):Prop:=p->p
theorem un1:hh (Hd O v w S [a]):=id
theorem un2:hh (Hd O v w S [a,b]):=id
theorem un3:hh (Hd O v w S [a,b,c]):=id
theorem un4:hh (Hd O v w S [a,b,c,d]):=id
theorem un5:hh (Hd O v w S [a,b,c,d,e]):=id
theorem un6:hh (Hd O v w S [a,b,c,d,e,f]):=id
theorem un7:hh (Hd O v w S [a,b,c,d,e,f,g]):=id
theorem un8:hh (Hd O v w S [a,b,c,d,e,f,g,i]):=id
theorem un9:hh (Hd O v w S [a,b,c,d,e,f,g,i,j]):=id
theorem aDr:hh (Hd O v w S [a,b,c,d,e,f,g,i,j,k]):=id
theorem un11:hh (Hd O v w S [a,b,c,d,e,f,g,i,j,k,l]):=id
theorem un12:hh (Hd O v w S [a,b,c,d,e,f,g,i,j,k,l,m]):=id
end
section
variable {P:Program}{N:Nat}{ops:Array Oper}{Q:Exit->Env->World->Prop}{rest:List Oper}{ρ:Env}{w:World}{d f:Nat}{t u ty tz:TypeId}{x y:Operand}{pos qos:String}{af bf:Array Edge}{g h:Option (Nat×Bool)}{b o m i:Nat}
theorem nf (hx:ev ρ x= .pointer (some ⟨b,o,none⟩))(fa:FAt t i m)(n:RL Tryz.prog N ops Q rest (upd (upd ρ d (.pointer (some ⟨b,o,none⟩))) f (.pointer (some ⟨b,o+m,none⟩))) w)(hy:ev (upd ρ d (.pointer (some ⟨b,o,none⟩))) y= .pointer (some ⟨b,o,none⟩):=by exact rfl)(hw:fJ N ops ρ ⟨some d,.nilCheck x,ty,pos,af,g⟩=true:=by exact rfl)(hd:Nat.blt d N=true:=by exact rfl)(hv:fJ N ops (upd ρ d (.pointer (some ⟨b,o,none⟩))) ⟨some f,.fieldAddr t y i,tz,qos,bf,h⟩=true:=by exact rfl)(hf:Nat.blt f N=true:=by exact rfl):RL Tryz.prog N ops Q (⟨some d,.nilCheck x,ty,pos,af,g⟩::⟨some f,.fieldAddr t y i,tz,qos,bf,h⟩::rest) ρ w:=zH (xE hx) (zH (fa hy) n hv hf) hw hd
theorem Xn {I:World->Prop}{κ:List MxM.Kd}{K:MxM.Mm->Env->World->Prop}{k q:Nat}{M:MxM.Mm}{σ:List Nat}(hx:ev ρ x= .pointer (some ⟨b,o,none⟩))(fa:FAt t i m)(n:MxM.XL Tryz.prog I N ops κ K M σ rest (upd (upd ρ d (.pointer (some ⟨b,o,none⟩))) f (.pointer (some ⟨b,o+m,none⟩))) w)(hy:ev (upd ρ d (.pointer (some ⟨b,o,none⟩))) y= .pointer (some ⟨b,o,none⟩):=by exact rfl)(hk:MxM.kdOf κ k= .pure:=by exact rfl)(hq:MxM.kdOf κ q= .pure:=by exact rfl)(hw:fJ N ops ρ ⟨some d,.nilCheck x,ty,pos,af,g⟩=true:=by exact rfl)(hd:Nat.blt d N=true:=by exact rfl)(hv:fJ N ops (upd ρ d (.pointer (some ⟨b,o,none⟩))) ⟨some f,.fieldAddr t y i,tz,qos,bf,h⟩=true:=by exact rfl)(hf:Nat.blt f N=true:=by exact rfl):MxM.XL Tryz.prog I N ops κ K M (k::q::σ) (⟨some d,.nilCheck x,ty,pos,af,g⟩::⟨some f,.fieldAddr t y i,tz,qos,bf,h⟩::rest) ρ w:=XQ (xE hx) (XQ (fa hy) n hq hv hf) hk hw hd
theorem nJ {I:World->Prop}{κ:List MxM.Kd}{K:MxM.Mm->Env->World->Prop}{M:MxM.Mm}{σ O S:List Nat}{v u:World}{l r:List Th}(G:Hd O v u S r)(H:Hd O u w (bks r) l)(n: ∀a,Hd O v a S l->K M ρ a):MxM.XL P I N ops κ K M σ [] ρ w:=MxM.XL_nil λa s=>n a (G.rj (H.Z s))
end
theorem _root_.Go.Lf.Hd.im {O S:List Nat}{v w:World}{l:List Th}(H:Hd O v w S l)(i:Nat){it:Th}(h:l[i]? =some it):it.holds (frees O l) w:=H.V h
theorem _root_.Go.Lf.Hm.im {n:Nat}{A:Nat->Prop}{O S:List Nat}{v w:World}{l:List Th}(H:Hm n A O v w S l)(i:Nat){it:Th}(h:l[i]? =some it):it.holds (frm O l v) w:=H.V h
theorem p1z {P:Program}{R:Ending->World->Prop}{ρ:Env}{w:World}{rs:Array ResultVar}{t:Tmp}{v:Value}(h:R (.returned v) w)(hr:rs= #[.tmp t]:=by exact rfl)(a:ρ t=v:=by exact rfl):uY P rs R .ret ρ w:=post1 hr a h
theorem en10:En 10:=fD Tryz.func10
theorem en13:En 13:=fD Tryz.func13
theorem en14:En 14:=fD Tryz.func14
theorem en22:En 22:=fD Tryz.func22
theorem en30:En 30:=fD Tryz.func30
theorem en36:En 36:=fD Tryz.func36
theorem en50:En 50:=fD Tryz.func50
theorem en52:En 52:=fD Tryz.func52
theorem en56:En 56:=fD Tryz.func56
theorem en57:En 57:=fD Tryz.func57
theorem en58:En 58:=fD Tryz.func58
theorem en60:En 60:=fD Tryz.func60
theorem en73:En 73:=fD Tryz.func73
theorem en89:En 89:=fD Tryz.func89
theorem en93:En 93:=fD Tryz.func93
theorem en94:En 94:=fD Tryz.func94
theorem en96:En 96:=fD Tryz.func96
theorem en98:En 98:=fD Tryz.func98
theorem en101:En 101:=fD Tryz.func101
theorem sN:En 107:=fD Tryz.func107
theorem aVs:En 115:=fD Tryz.func115
theorem aPc:En 125:=fD Tryz.func125
theorem aKw:En 126:=fD Tryz.func126
theorem en127:En 127:=fD Tryz.func127
theorem aVo:En 131:=fD Tryz.func131
theorem en135:En 135:=fD Tryz.func135
theorem aEt:En 153:=fD Tryz.func153
theorem en156:En 156:=fD Tryz.func156
theorem en157:En 157:=fD Tryz.func157
theorem en158:En 158:=fD Tryz.func158
theorem en159:En 159:=fD Tryz.func159
theorem en162:En 162:=fD Tryz.func162
theorem en166:En 166:=fD Tryz.func166
theorem en191:En 191:=fD Tryz.func191
theorem en194:En 194:=fD Tryz.func194
theorem en195:En 195:=fD Tryz.func195
theorem aVh:En 199:=fD Tryz.func199
theorem en200:En 200:=fD Tryz.func200
theorem en201:En 201:=fD Tryz.func201
theorem en203:En 203:=fD Tryz.func203
theorem en213:En 213:=fD Tryz.func213
theorem en222:En 222:=fD Tryz.func222
theorem en223:En 223:=fD Tryz.func223
theorem en225:En 225:=fD Tryz.func225
theorem en229:En 229:=fD Tryz.func229
theorem en245:En 245:=fD Tryz.func245
theorem aKx:En 263:=fD Tryz.func263
theorem en309:En 309:=fD Tryz.func309
theorem en310:En 310:=fD Tryz.func310
theorem mixed:Tryz.prog.follows .mixedOrders=true:=by kernel_rfl
theorem aOn {b c d:Int}{r:Bool}(a:Fac b c d=some r)(H:Hd O w w S []):
  Rt 153 [i6 b,i6 c,i6 d] (vb r) w O S []:=by
 refine CW 15 Tryz.func153 ?_;refine SR<|zC (vb false)<|RM<|bE a λf a g=>sJ H (rg [6,9]) [(6,vb f)] ?_ ?_;refine zF<|zB (i6 b)<|zB (i6 c)<|nK a λh a=>RJ a (λa=>?_) (λa=>?_);refine zB (i6 b)<|zB (i6 d)<|vF a λe a=>pt (vb e)<|zC (vb e) ?_;cases a;exact jn<|mt () (H.U []);refine zQ<|zQ<|zQ<|pf (vb false)<|zC (vb false) ?_;cases a;exact jn<|mt () (H.U []);rintro _ ρ i H;have a:=g;cases a;exact zI<|p1z ⟨rfl,H.U []⟩
theorem Fdow {a:Part}{c:Int}{d:Nat}{r:Bool}(b:Fdo a c=some r)(H:Hd O w w S [.blk d [i6 c] 3]):
  Rt 219 [.agg [i6 a.Frame,i6 a.Word,i6 a.Low,i6 a.Bits].toArray,gQ d] (vb r) w O S [.blk d [i6 c] 3]:=by
 refine CW 9 Tryz.func219 ?_;refine SR<|xb (yH (cs:=[i6 a.Frame,i6 a.Word,i6 a.Low,i6 a.Bits]) Z H) λf g H=>zC (vb false)<|RM<|SR<|Ld fB H 0 0 Z Z<|zH (aLg Z)<|Ld fB H 1 0 Z Z<|fQ b λh b=>nK b λe b=>zC (vb e)<|RM ?_;cases b;exact zI<|p1z ⟨Z,H.U [0]⟩
theorem Ffhw {f:List Part}{p1c0 r:Int}{c:Value}{d:Nat}(a:Ffh f p1c0=some r)(H:Hd O w w S [.blk d [i6 p1c0] 3,mJ c f]):
  Rt 261 [c,.func (.func 219) #[] #[gQ d]] (i6 r) w O S [.blk d [i6 p1c0] 3]:=by
 refine CW 19 Tryz.func261 ?_;refine SR<|zC (i6 0)<|RM<|jk a H (rg [4,15]) (λx (y:Unit)=>[]) (λx y=>[]) [0] (λ_ a=>?_) ?_;refine SR<|zB c<|ln a (H.im 1 Z) aFp λt a=>zB (i6 0)<|RM<|zK<|lo a H (rg [4,2,8,11]) (λx (y:Unit)=>[(8,i6 x)]) (λx y=>[]) [0,1] () (H.U [0,1]) ?_;clear H a;rintro u b _ ρ v H a;have H:=un2 H;refine SR<|fP a λ_ a=>RM<|SQ<|WJ a (λa=>WZ<|SQ<|zK<|SR<|zB (i6 b)<|zC (i6 b)<|RM<|SR<|zB (.func (.func 219) #[] #[gQ d])<|zB c<|zB (i6 b)<|bE a λe g a=>?_) λa=>?_;obtain⟨h,i,A,B,j,k,l,m,n⟩:=yY (H.im 1 Z) g;obtain rfl:=sD k;have H:=H.fz (.at h (i+b.toNat*4) _) ⟨l,m,n⟩;refine ix aFp rW j g<|zH (yJ (zZ (cs:=[i6 e.Frame,i6 e.Word,i6 e.Low,i6 e.Bits]) aEe Z rW Z (H.im 2 Z).2.2) Z)<|bE a λC o a=>xH Z Z (dA (fD Tryz.func219) Z Z) (Fdow o (H.W [0] [])) ?_;rintro _ D ⟨rfl,p⟩;have H:=un3<|H.back [0] [] Z p;refine⟨_,Z,?_⟩;refine RM<|WJ a (λa=>SR<|zB (i6 b)<|zC (i6 b)<|RM ?_) λa=>?_;cases a;exact zI<|zN<|zG<|zG<|zN<|zG<|p1z ⟨Z,H.U [2]⟩;exact yL<|zV<|zJ<|KN<|zF<|fQ a λq a=>zB (i6 q)<|jn<|me a () (H.U [2,0]);exact zY<|zM<|zM<|zT<|zJ<|me a () (H.U [0]);rintro _ _ ρ _ H a;have H:=un1 H;refine SR<|zC (i6 (-1))<|RM ?_;cases a;exact zI<|p1z ⟨Z,H.U [0]⟩
theorem Fcsw {d:List Part}{p1c0:Int}{c:Value}{b:Nat}{r:Bool}(a:Fcs d p1c0=some r)(H:Hd O w w S [.blk b [i6 p1c0] 3,mJ c d]):
  Rt 218 [c,.func (.func 219) #[] #[gQ b]] (vb r) w O S [.blk b [i6 p1c0] 3]:=by
 refine CW 9 Tryz.func218 ?_;refine SR<|zC (vb false)<|RM<|SR<|zB c<|zB (.func (.func 219) #[] #[gQ b])<|bE a λh e a=>cAz (fD Tryz.func261) (Ffhw e (H.W [0] [1])) λi f=>?_;have H:=un2<|H.back [0] [1] Z f;refine nK a λg a=>zC (vb g)<|RM ?_;cases a;exact zI<|p1z ⟨Z,H.U [1]⟩
theorem Fa1w {b:Param}{c d:Value}{r:(List Int)}(a:Fa1 b=some r)(H:Hd O w w S [mJ c b.Parts,bI d b.Names]):
  Cl 156 [.agg [sb b.Name,i6 b.Kind,c,i6 b.First,i6 b.Every,i6 b.Times,i6 b.Step,d].toArray] w λe l=> ∃u5,e= .returned (u5)/\Hd O w l S [.own (Rp.int .i64) u5 3 r]:=by
 refine CW 24 Tryz.func156 ?_;refine SR<|xb (yH (cs:=[sb b.Name,i6 b.Kind,c,i6 b.First,i6 b.Every,i6 b.Times,i6 b.Step,d]) Z H) λD _ H=>zC (.slice none 0 0)<|RM<|SR<|zC (.slice none 0 0)<|RM<|bE a λm a n=>jo H (rg [3,20]) (λ(g:Value)=>[(3,g)]) (λg=>[.own (Rp.int .i64) g 3 m]) [0] ?_ ?_;refine SR<|zH (aTv Z)<|Ld fB H 2 3 Z Z<|xb (zW zero3 H) λo _ H=>xu (yS H 3 Z sz3 Z (v:=i6 b.First) Z Z Z) λ_ H=>RM<|zK ?_;have H:=dL H (Rp.int .i64) 3;refine lo a H (rg [3,2,7,16]) (λx (y:Value×Nat)=>[(3,y.1),(4,.pointer (some ⟨y.2,0,none⟩))]) (λx y=>[.own (Rp.int .i64) y.1 3 x.1,.blk y.2 [i6 x.2] 3]) (rg [0,5]) (.slice none 0 0,o) (H.U [4,3,0,1,2]) ?_;clear H a;rintro _ ⟨_,j⟩ ⟨f,_⟩ ρ _ H a;have H:=un5 H;refine SQ<|SR<|Ld fB H 1 0 Z Z<|fP a λ_ a=>RM<|WJ a (λa=>WZ<|bE a λp a q=>jo H (rg [3,1,13,9]) (λ(g:Value)=>[(3,g)]) (λg=>[.own (Rp.int .i64) g 3 p]) [0,2,3,4,5] ?_ ?_) λa=>?_;refine zK<|SR<|zH (wL Z)<|Ld aCb H 4 2 Z Z<|zH (yQ Z)<|bE a λN s a=>cAz (fD Tryz.func218) (Fcsw s (H.W [1] [2])) λP t=>?_;have H:=un5<|H.back [1] [2] Z t;refine dD a λQ a=>RM<|WJ a (λa=>zF<|zB f<|Ld fB H 4 0 Z Z<|lE a λ_ u a=>?_) λa=>?_;subst u;refine xv (kl kInt [j] u50 el3 H) λT U H=>bE a λV z a=>xv (jG H (i:=0) Z u50 el3 Z Z (Sr.xO (H.im 5 Z)) z) λk X H=>zC k ?_;cases a;exact eQ<|zV<|zJ<|mt k (H.U [0,4,1,2,3]);cases a;exact yL<|zV<|zJ<|mt f (H.U [0,4,1,2,3])
 rintro A ρ Y H;have H:=un5 H;have a:=q;exact SQ<|SR<|Ld fB H 1 0 Z Z<|RM<|zF<|xb (zW zero3 H) λB _ H=>xu (yS H 5 Z sz3 Z (v:=i6 j) Z Z Z) λ_ H=>RM<|zF<|Ld fB H 5 0 Z Z<|zH (aMi Z)<|Ld fB H 4 4 Z Z<|fQ a λC a=>xu (yS H 5 Z sz3 Z (v:=i6 C) Z Z Z) λ_ H=>jn<|me a (A,B) (H.U [0,5,2,3,4]);cases a;exact zY<|zM<|zM<|zT<|zJ<|mt f (H.U [0]);rintro h ρ _ H;have H:=un1 H;have a:=n;refine SR<|zB h<|zC h<|RM ?_;cases a;exact zI<|p1z ⟨h,Z,H.U [0]⟩
theorem Ffyw {a:Param}{b:Part}{d e:Int}{f g:Value}{r:fE}(c:Ffy a b d e=some r)(H:Hd O w w S [mJ f a.Parts,bI g a.Names]):
  Rt 220 [.agg [sb a.Name,i6 a.Kind,f,i6 a.First,i6 a.Every,i6 a.Times,i6 a.Step,g].toArray,.agg [i6 b.Frame,i6 b.Word,i6 b.Low,i6 b.Bits].toArray,i6 d,i6 e] (.agg [i6 r.Frame,i6 r.Word,i6 r.Low,i6 r.Bits].toArray) w O S []:=by
 refine CW 25 Tryz.func220 ?_;refine SR<|xb (yH (cs:=[sb a.Name,i6 a.Kind,f,i6 a.First,i6 a.Every,i6 a.Times,i6 a.Step,g]) Z H) λj k H=>xb (yH (cs:=[i6 b.Frame,i6 b.Word,i6 b.Low,i6 b.Bits]) Z H) λl m H=>xb (zW aNk H) λ_ o H=>RM<|SR<|zB (i6 d)<|zH (aLg Z)<|Ld fB H 3 0 Z Z<|fQ c λh c=>zH (aMb Z)<|Ld fB H 3 1 Z Z<|zB (i6 e)<|zH (aCq Z)<|Ld fB H 2 6 Z Z<|aLz c λ_ c=>fQ c λi c=>zH (aMm Z)<|Ld fB H 3 2 Z Z<|zH (aMn Z)<|Ld fB H 3 3 Z Z<|zH (yU (cs:=[i6 h,i6 i,i6 b.Low,i6 b.Bits]) (aIt _ _ _ _))<|xu (zS (vs:=[i6 h,i6 i,i6 b.Low,i6 b.Bits]) H 4 Z aCh Z Z Z ⟨Z,Z,Z,Z,T1⟩ Z) λ_ H=>RM ?_;cases c;exact zI<|kG Z Z (zU aNe aCh Z (Hbc H 4 Z)) ⟨Z,H.U []⟩
theorem Fapw {k:Int}{b:Param}{m n:Value}{r:(List Cell)}(a:Fap k b=some r)(H:Hd O w w S [mJ m b.Parts,bI n b.Names]):
  Cl 157 [i6 k,.agg [sb b.Name,i6 b.Kind,m,i6 b.First,i6 b.Every,i6 b.Times,i6 b.Step,n].toArray] w λe h=> ∃u5,e= .returned (u5)/\Hd O w h S [.own pR u5 137 r]:=by
 refine CW 54 Tryz.func157 ?_;refine SR<|xb (yH (cs:=[sb b.Name,i6 b.Kind,m,i6 b.First,i6 b.Every,i6 b.Times,i6 b.Step,n]) Z H) λ_ _ H=>zC (.slice none 0 0)<|RM<|SR<|zC (.slice none 0 0)<|RM<|bE a λE a F=>jo H (rg [5,1,7,3,11,42]) (λ(g:Value)=>[(5,g)]) (λg=>[.own pR g 137 E]) [0] ?_ ?_;refine SR<|lb H 2 Z eX fZ<|bE a λ_ G a=>cAa en156 (Fa1w G (H.W [] [0,1])) λ_ a0 I=>?_;have H:=H.back1 [0,1] Z I;obtain⟨_,a2,J⟩:=Sr.len (Sr.xO (H.im 3 Z));refine RLi a (bQ u50 J) λa3 a=>zB (i6 0)<|RM<|zK ?_;have H:=dL H pR 137;refine lo a H (rg [5,1,7,3,11,1,15,38]) (λx (y:Value)=>[(5,y),(15,i6 x.2)]) (λx y=>[.own pR y 137 x.1]) (rg [0,5]) (.slice none 0 0) (H.U [4,0,1,2,3]) ?_;clear H a;rintro a4 ⟨a5,_⟩ u ρ _ H a;have H:=un5 H;refine SR<|fP a λ_ a=>RM<|SQ<|WJ a (λa=>WZ<|bE a λK a L=>jo H (rg [5,1,7,3,11,1,17,35]) (λ(g:Value)=>[(5,g)]) (λg=>[.own pR g 137 K]) [0,2,3,4,5] ?_ ?_) λa=>?_;refine zK<|SR<|bE a λj z a=>?_;obtain⟨a9,_,M,N,P,Q⟩:=mZ (H.im 4 Z) z;obtain rfl:M=[i6 j]:=P;refine ix u50 sz3 N z<|zH (yR fB Z (Cells.get Q (i:=0) Z))<|zC (i6 j)<|RM<|SR<|zH (vP Z)<|Ld fB H 3 5 Z Z<|zB (i6 0)<|RM<|zK<|lo a H (rg [5,1,8,2,11,1,21,31]) (λx (y:Value)=>[(5,y),(21,i6 x.2)]) (λx y=>[.own pR y 137 x.1]) [0,2,3,4,5] u (H.U (rg [0,5])) ?_;clear H a;rintro _ ⟨_,o⟩ p ρ _ H a;have H:=un5 H;refine SR<|fP a λ_ a=>RM<|SQ<|WJ a (λa=>WZ<|bE a λR a T=>jo H (rg [5,1,8,2,11,1,23,28]) (λ(g:Value)=>[(5,g)]) (λg=>[.own pR g 137 R]) [0,2,3,4,5] ?_ ?_) λa=>?_
 refine zK<|SR<|zB (i6 o)<|zC (i6 o)<|RM<|SR<|zB (i6 k)<|zB p ?_;obtain⟨bf,_,U⟩:=Sr.len (Sr.xO (H.im 0 Z));refine RLi a (bQ u131 U) λl a=>zB (i6 j)<|zH (yU (cs:=[i6 k,i6 l,i6 j,.slice none 0 0]) (aPo _ _ _))<|xb (zW aCt H) λA _ H=>xu (zS (vs:=[i6 k,i6 l,i6 j,.slice none 0 0]) H 5 Z rV Z Z Z ⟨Z,Z,Z,Z,T1⟩ Z) λ_ H=>RM<|bE a λs a V=>jo H (rg [11,1,29,18]) (λ(g:Value)=>[]) (λg=>[.blk A [i6 k,i6 l,i6 j,g] 137,.own kN g 139 s]) (rg [2,5,0,2]) ?_ ?_;refine SR<|zH (wL Z)<|Ld aCb H 3 2 Z Z<|ln a (H.im 1 Z) aFp λ_ a=>zB (i6 0)<|RM<|zK ?_;have H:=dL H kN 139;refine lo a H (rg [11,1,32,15]) (λx (y:Value)=>[(32,i6 x.1)]) (λx y=>[.blk A [i6 k,i6 l,i6 j,y] 137,.own kN y 139 x.2]) (rg [2,5,0,2]) (.slice none 0 0) (H.U (rg [0,7])) ?_;clear H a;rintro _ ⟨X,_⟩ Y ρ _ H a;have H:=un7 H;refine SR<|fP a λ_ a=>RM<|SQ<|WJ a (λa=>WZ<|SQ<|zK<|SR<|bE a λf B a=>?_) λa=>?_;obtain⟨aa,ab,_,_,ac,ad,ae,af,ag⟩:=yY (H.im 1 Z) B;obtain rfl:=sD ad;have H:=H.fz (.at aa (ab+X.toNat*4) _) ⟨ae,af,ag⟩;refine ix aFp rW ac B<|zH (yJ (zZ (cs:=[i6 f.Frame,i6 f.Word,i6 f.Low,i6 f.Bits]) aEe Z rW Z (H.im 7 Z).2.2) Z)<|xb (zW aGg H) λ_ _ H=>xu (zS (vs:=[i6 f.Frame,i6 f.Word,i6 f.Low,i6 f.Bits]) H 8 Z rW Z Z Z ⟨Z,Z,Z,Z,T1⟩ Z) λ_ H=>RM ?_;have ah:=H;have H:=H.rb;have bu:=H;refine xI H (rg [0,11]) (kz [0,1,1,1,0,0,1,2,3,0,3]) mixed ?_;refine XQ (aDi Z)<|XR aLr H 5 3 Z Z<|MxM.yZ oS Z Z Z (λh d=>yJ (zZ (cs:=[sb b.Name,i6 b.Kind,m,i6 b.First,i6 b.Every,i6 b.Times,i6 b.Step,n]) eX Z fZ Z (Blk.cells ((H.Z d).V (i:=3) Z))) Z)<|MxM.yZ oS Z Z Z (λh d=>yJ (zZ (cs:=[i6 f.Frame,i6 f.Word,i6 f.Low,i6 f.Bits]) aEe Z rW Z (Blk.cells ((H.Z d).V (i:=8) Z))) Z) ?_
 refine XM (i6 j)<|XM (i6 o) ?_;have ai:=H;refine bE a λc aj a=>MxM.XL_call oS Z Z Z (v:= .agg [i6 c.Frame,i6 c.Word,i6 c.Low,i6 c.Bits].toArray) (λh d=>xJ (fD Tryz.func220) Z) (λh d=>by have q:=bZ (Ffyw aj ((H.Z d).W [] [1,2]));exact q) ?_;have H:=ai;refine lE a λ_ ak a=>?_;subst ak;refine MxM.XL_exN oS Z Z Z (λh d=>aJs (aDl kN c [i6 c.Frame,i6 c.Word,i6 c.Low,i6 c.Bits] aSv el139 (aSt (x:=c)) (H.Z d)) (aOy (cs:=[i6 c.Frame,i6 c.Word,i6 c.Low,i6 c.Bits]) aSv el139 (by decide) (by decide) (nD (vs:=[.agg [i6 c.Frame,i6 c.Word,i6 c.Low,i6 c.Bits].toArray]) (by decide) Z Z ⟨Z,T1⟩ Z))) ?_;rintro h _ _ d H;refine bE a λ_ al a=>Xe (λh d=>jG (H.Z d) (i:=6) Z aSv el139 Z Z (Sr.xO ((H.Z d).V (i:=9) Z)) al) λh C _ d H=>XQ (aDi Z)<|Xu (λh d=>yS (H.Z d) 5 Z sz135 Z (v:=C) Z (aT ((H.Z d).V (i:=6) Z)) Z) λh _ d H=>nJ ah H λ_ H=>?_;refine zV (zJ (KN ?_));exact zF<|fQ a λam a=>zB (i6 am)<|jn<|me a C (H.U (rg [0,7]));cases a;exact zY<|zM<|zM<|zT<|zJ<|mt Y (H.U (rg [0,7]));rintro an ρ _ H;have H:=un7 H;have a:=V;refine zF<|zB p<|lb H 5 Z aDn rV ?_;have H:=H.freeze (i:=6) Z;refine lE a λ_ ao a=>?_;subst ao;refine xv (aDl pR (Cell.mk k l j s) [i6 k,i6 l,i6 j,an] u131 el137 (rCell_mk (x:=Cell.mk k l j s) (H.im 6 Z)) H) λ_ _ H=>bE a λ_ ap a=>xv (jG H (i:=0) Z u131 el137 Z Z (Sr.xO (H.im 7 Z)) ap) λD _ H=>zC D ?_;cases a;exact eQ<|zV<|zJ<|mt D (H.U (rg [0,5]))
 rintro aq ρ _ H;have H:=un5 H;have a:=T;exact zF<|fQ a λar a=>zB (i6 ar)<|jn<|me a aq (H.U (rg [0,5]));cases a;exact zY<|zM<|zM<|zT<|zV<|zJ<|mt p (H.U (rg [0,5]));rintro au ρ _ H;have H:=un5 H;have a:=L;exact zF<|fQ a λav a=>zB (i6 av)<|jn<|me a au (H.U (rg [0,5]));cases a;exact zY<|zM<|zM<|zT<|zJ<|mt u (H.U [0]);rintro t ρ _ H;have H:=un1 H;have a:=F;refine SR<|zB t<|zC t<|RM ?_;cases a;exact zI<|p1z ⟨t,Z,H.U [0]⟩
theorem Fcyw {b:fE}{r:(List gX)}(a:Fcy b=some r)(H:Hd O w w S []):
  Cl 221 [.agg [i6 b.Frame,i6 b.Word,i6 b.Low,i6 b.Bits].toArray] w λe l=> ∃h,e= .returned (h)/\Hd O w l S [.own mM h 282 r]:=by
 refine CW 24 Tryz.func221 ?_;refine SR<|xb (yH (cs:=[i6 b.Frame,i6 b.Word,i6 b.Low,i6 b.Bits]) Z H) λ_ t H=>zC (.slice none 0 0)<|RM<|SR<|zC (.slice none 0 0)<|RM<|bE a λm a n=>jo H (rg [3,20]) (λ(g:Value)=>[(3,g)]) (λg=>[.own mM g 282 m]) [0] ?_ ?_;refine SR<|zH (aNm Z)<|Ld fB H 0 3 Z Z<|zB (i6 0)<|RM<|zK ?_;have H:=dL H mM 282;refine lo a H (rg [3,2,7,16]) (λx (y:Value)=>[(3,y),(7,i6 x.2)]) (λx y=>[.own mM y 282 x.1]) [0,1] (.slice none 0 0) (H.U [1,0]) ?_;clear H a;rintro u ⟨v,d⟩ j ρ _ H a;have H:=un2 H;refine SR<|fP a λA a=>RM<|SQ<|WJ a (λa=>WZ<|SQ<|zK<|SR<|zB (i6 d)<|zC (i6 d)<|RM<|zF<|zB j<|zH (aVl Z)<|Ld fB H 1 0 Z Z<|zH (aMp Z)<|Ld fB H 1 1 Z Z<|zH (aVk Z)<|Ld fB H 1 2 Z Z<|zB (i6 d)<|fQ a λc a=>zH (yU (cs:=[i6 b.Frame,i6 b.Word,i6 c]) (aPa _ _ _))<|lE a λB o a=>?_) λa=>?_;subst o;refine xv (aDl mM (gX.mk b.Frame b.Word c) [i6 b.Frame,i6 b.Word,i6 c] u279 el282 (aJa (x:=gX.mk b.Frame b.Word c)) H) λC D H=>bE a λ_ p a=>xv (jG H (i:=0) Z u279 el282 Z Z (Sr.xO (H.im 2 Z)) p) λk _ H=>zC k<|(eQ (zV (zJ (KN ?_))));exact zF<|fQ a λq a=>zB (i6 q)<|jn<|me a k (H.U [0,1]);cases a;exact zY<|zM<|zM<|zT<|zJ<|mt j (H.U [0]);rintro f ρ _ H;have H:=un1 H;have a:=n;refine SR<|zB f<|zC f<|RM ?_;cases a;exact zI<|p1z ⟨f,Z,H.U [0]⟩
theorem Fbnw {j:List (gX×Int)}{f:Int}{l:List fE}{b:Nat}{h:Value}{r:Bool×(List (gX×Int))}(a:Fbn j f l=some r)(H:Hd O w w S [.mp b (dG dB (λv=>Value.int .i64 v) j),f1 kN h l]):
  Rt 158 [.map (some b),i6 f,h] (vb r.1) w O S [.mp b (dG dB (λv=>Value.int .i64 v) r.2)]:=by
 refine CW 38 Tryz.func158 ?_;refine SR<|zC (vb false)<|RM<|jk a H (rg [6,1,8,1,10,28]) (λx (y:Unit)=>[]) (λx y=>[.mp b (dG dB (λv=>Value.int .i64 v) x)]) [0] (λT a=>?_) ?_;refine SR<|zB h<|ln a (H.im 1 Z) aSv λU a=>zB (i6 0)<|RM<|zK<|lo a H (rg [6,1,8,1,10,3,15,23]) (λx (y:Unit)=>[(15,i6 x.1)]) (λx y=>[.mp b (dG dB (λv=>Value.int .i64 v) x.2)]) [0,2] () (H.U [0,1]) ?_;clear H a;rintro V ⟨q,X⟩ _ ρ Y H a;have H:=un2 H;refine SR<|fP a λ_ a=>RM<|SQ<|WJ a (λa=>WZ<|jk a H (rg [6,1,8,1,10,3,17,20]) (λx (y:Unit)=>[]) (λx y=>[.mp b (dG dB (λv=>Value.int .i64 v) x)]) [0,2] (λ_ a=>?_) ?_) λa=>?_;refine zK<|SR<|bE a λc n a=>?_;obtain⟨s,t,_,_,u,z,A,B,C⟩:=yY (H.im 1 Z) n;obtain rfl:=aCr z;have H:=H.fz (.at s (t+q.toNat*4) _) ⟨A,B,C⟩;refine ix aSv aCh u n<|zH (yJ (zZ (cs:=[i6 c.Frame,i6 c.Word,i6 c.Low,i6 c.Bits]) aNe Z aCh Z (H.im 2 Z).2.2) Z)<|xb (zW aNk H) λ_ af H=>xu (zS (vs:=[i6 c.Frame,i6 c.Word,i6 c.Low,i6 c.Bits]) H 3 Z aCh Z Z Z ⟨Z,Z,Z,Z,T1⟩ Z) λ_ H=>RM<|SR<|lb H 3 Z aNe aCh<|bE a λ_ D a=>cAa (fD Tryz.func221) (Fcyw D (H.W [] [])) λ_ _ E=>?_;have H:=H.back1 [] Z E;obtain⟨_,_,F⟩:=Sr.len (Sr.xO (H.im 4 Z));refine RLi a (bQ u279 F) λ_ a=>zB (i6 0)<|RM<|zK<|lo a H (rg [6,1,10,3,22,15]) (λx (y:Unit)=>[(22,i6 x.1)]) (λx y=>[.mp b (dG dB (λv=>Value.int .i64 v) x.2)]) [0,2,5] () (H.U [0,1,4]) ?_;clear H a;rintro _ ⟨_,o⟩ _ ρ _ H a
 have H:=un3 H;refine SR<|fP a λ_ a=>RM<|SQ<|WJ a (λa=>WZ<|SQ<|zK<|SR<|bE a λd p a=>?_) λa=>?_;obtain⟨_,_,_,I,J,K⟩:=mZ (H.im 2 Z) p;obtain rfl:=aFl J;refine ix u279 aKc I p<|zH (yJ (zZ (cs:=[i6 d.frame,i6 d.word,i6 d.bit]) aMz Z aKc Z K) Z)<|xb (zW zero282 H) λ_ _ H=>xu (zS (vs:=[i6 d.frame,i6 d.word,i6 d.bit]) H 3 Z aKc Z Z Z ⟨Z,Z,Z,T1⟩ Z) λL H=>RM<|SQ<|SR<|zB (.map (some b))<|lb H 3 Z aMz aKc<|lE a λi M a=>lE a λg N a=>zH (aOi (e:=dB) (G:=(λv=>Value.int .i64 v)) (m:=o) (k:=d) (zv:=0) wk282 (H.im 0 Z) u231 Z Z (Tryz.zeroValue3 L) M N)<|zB (.tuple #[i6 i,vb g])<|zH (zX (v:=i6 i) Z Z)<|zH (zX (v:=vb g) Z Z)<|zC (i6 i)<|zC (vb g)<|RM<|SQ<|zF<|zB (vb g)<|RM<|WJ a (λa=>SR<|zC (vb false)<|RM ?_) λa=>?_;cases a;exact zI<|zG<|zN<|zG<|zG<|zN<|zN<|zG<|zG<|zN<|zG<|p1z ⟨Z,H.U [0]⟩;exact WZ<|zF<|zB (.map (some b))<|lb H 3 Z aMz aKc<|zB (i6 f)<|lE a λ_ P a=>xu (aIn (e:=dB) (G:=(λv=>Value.int .i64 v)) (m:=o) (k:=d) (v:=f) wk282 H 0 Z u231 Z Z Z P) λ_ H=>eQ<|zV<|zJ<|KN<|zF<|fQ a λQ a=>zB (i6 Q)<|jn<|me a () (H.U [0,1,2]);exact zY<|zM<|zM<|zT<|zV<|zJ<|me a () (H.U [0,1]);rintro a0 _ ρ _ H a;have H:=un2 H;exact zF<|fQ a λR a=>zB (i6 R)<|jn<|me a () (H.U [0,1]);exact zY<|zM<|zM<|zT<|zJ<|me a () (H.U [0]);rintro a2 _ ρ a3 H a;have H:=un1 H;refine SR<|zC (vb true)<|RM ?_;cases a;exact zI<|p1z ⟨Z,H.U [0]⟩
theorem Fdmw {b:Int}{r:Bool}(a:Fdm b=some r)(H:Hd O w w S []):
  Rt 228 [.int .i32 b] (vb r) w O S []:=by
 refine CW 22 Tryz.func228 ?_;refine SR<|zC (vb false)<|RM<|bE a λd a e=>sJ H (rg [2,20]) [(2,vb d)] ?_ ?_;refine zF<|zB (.int .i32 b)<|nK a λm a=>bE a λf a g=>yV 4 [5,6,7,8] [(8,vb f)] (λwl=>Hd O w wl S []) ?_ ?_;refine RJ a (λa=>zB (.int .i32 b)<|vF a λh a=>pt (vb h) ?_) λa=>?_;cases a;exact jn<|meet ⟨(yA Z yG),H.U []⟩;refine zQ<|zQ<|pf (vb false) ?_;cases a;exact jn<|meet ⟨(yA Z yG),H.U []⟩;rintro ρ _ H;have a:=g;refine bE a λi a j=>yV 8 [9,10,11,12,13,14,15,16] [(16,vb i)] (λwl=>Hd O w wl S []) ?_ ?_;refine RJ a (λa=>zQ<|zQ<|zQ<|zQ<|zQ<|zQ<|pt (vb true) ?_) λa=>?_;cases a;exact jn<|meet ⟨(yA Z yG),H.U []⟩;refine zB (.int .i32 b)<|nK a λo a=>RJ a (λa=>zB (.int .i32 b)<|vF a λc a=>pt (vb c)<|pf (vb c) ?_) λa=>?_;cases a;exact jn<|meet ⟨(yA Z yG),H.U []⟩;refine zQ<|zQ<|pf (vb false)<|pf (vb false) ?_;cases a;exact jn<|meet ⟨(yA Z yG),H.U []⟩;rintro ρ _ H;have a:=j;refine RJ a (λa=>zQ<|zQ<|pt (vb true)<|zH (xX (p:=true) Z)<|zC (vb false) ?_) λa=>?_;cases a;exact jn<|mt () (H.U []);refine zB (.int .i32 b)<|dV a λk a=>pf (vb k)<|dD a λl a=>zC (vb l) ?_;cases a;exact jn<|mt () (H.U []);rintro _ ρ _ H;have a:=e;cases a;exact zI<|p1z ⟨Z,H.U []⟩
theorem bad_p (x:Nat):Fdm (x:Int)=some (!aA x):=by
 have a:decide (97<=(x:Int))=decide (97<=x):=decide_eq_decide.2 (by omega);have b:decide ((x:Int)<=122)=decide (x<=122):=decide_eq_decide.2 (by omega);have c:decide (48<=(x:Int))=decide (48<=x):=decide_eq_decide.2 (by omega);have d:decide ((x:Int)<=57)=decide (x<=57):=decide_eq_decide.2 (by omega);have e:decide ((x:Int)=45)=decide (x=45):=decide_eq_decide.2 (by omega);unfold Fdm aA;rw [a];simp only [b,c,d,e];generalize decide (97<=x)=f;generalize decide (x<=122)=g;generalize decide (48<=x)=h;generalize decide (x<=57)=i;generalize decide (x=45)=j;cases f<;>cases g<;>cases h<;>cases i<;>cases j<;>rfl
theorem Fi1 {a:Str}{r:Bool}(b:Ffq a=some r)(H:Hd O w w S []):
  Rt 227 [sb a,.func (.func 228) #[] #[]] (vb r) w O S []:=by
 have hr:=oI b;subst hr;have hp:Go.Proofs.PredGrows Tryz.prog 228 #[] (λx=> !aA x) w:=λW x hx _=>by
  exact(Fdmw (bad_p x) (Hd.fresh0 W)).mono λe c h=>⟨h.1,h.2.only.below⟩
 refine(Go.Proofs.Any.strings_ContainsFunc_grows aSm 228 #[] (Go.Proofs.enters_of Tryz.func228 (by kernel_rfl) rfl) (λx=> !aA x) (bs a) w hp).mono λe c h=>⟨?_,H.step (Only.of_below h.2)⟩
 rw [h.1]
 congr 2
 unfold Go.Lib.idxFunc;rw [aTp (λx hx=>?_) a _ 0 (by simp [bs,ByteArray.size]),List.drop_zero];unfold aA;simp;omega
theorem Fbkw {b:Str}{r:Bool}(a:Fbk b=some r)(H:Hd O w w S []):
  Rt 166 [sb b] (vb r) w O S []:=by
 refine CW 24 Tryz.func166 ?_;refine SR<|zC (vb false)<|RM<|SQ<|bE a λc a d=>sJ H (rg [3,18]) [(20,vb c)] ?_ ?_;refine zF<|zB (sb b)<|RLi a (kQ (s1:=b) u9 Z) λ_ a=>fP a λ_ a=>bE a λe a f=>yV 5 [6,7,8,9,10] [(10,vb e)] (λwl=>Hd O w wl S []) ?_ ?_;refine RJ a (λa=>zQ<|zQ<|zQ<|pt (vb true) ?_) λa=>?_;cases a;exact jn<|meet ⟨(yA Z yG),H.U []⟩;refine zB (sb b)<|RLi a (kQ (s1:=b) u9 Z) λt a=>jA a λg a=>pf (vb g) ?_;cases a;exact jn<|meet ⟨(yA Z yG),H.U []⟩;rintro ρ u H;have a:=f;refine bE a λh a i=>yV 5 [11,12,13,14,15] [(15,vb h)] (λwl=>Hd O w wl S []) ?_ ?_;refine RJ a (λa=>zQ<|zQ<|zQ<|pt (vb true) ?_) λa=>?_;cases a;exact jn<|meet ⟨(yA Z yG),H.U []⟩;refine zB (sb b)<|bE a λv j a=>zH (qI (s1:=b) (q:=0) u9 Z Z j)<|fP a λk a=>pf (vb k) ?_;cases a;exact jn<|meet ⟨(yA Z yG),H.U []⟩;rintro ρ x H;have a:=i;refine RJ a (λa=>zQ<|zQ<|zQ<|pt (vb true) ?_) λa=>?_;cases a;exact jn<|mt () (H.U []);refine zB (sb b)<|bE a λy l a=>zH (qI (s1:=b) (q:=0) u9 Z Z l)<|jA a λm a=>pf (vb m) ?_;cases a;exact jn<|mt () (H.U []);rintro _ ρ _ H;have a:=d;refine WJ a (λa=>SR<|zC (vb false)<|RM ?_) λa=>?_;cases a;exact zI<|zG<|p1z ⟨Z,H.U []⟩;refine WZ<|SR<|zB (sb b)<|bE a λA n a=>RC (fD Tryz.func227) (Fi1 n (H.W [] [])) H λB H=>dD a λo a=>zC (vb o)<|RM ?_;cases a;exact zI<|p1z ⟨Z,H.U []⟩
theorem Fakw {b:Param}{d e:Value}{r:Int}(a:Fak b=some r)(H:Hd O w w S [mJ d b.Parts,bI e b.Names]):
  Rt 229 [.agg [sb b.Name,i6 b.Kind,d,i6 b.First,i6 b.Every,i6 b.Times,i6 b.Step,e].toArray] (i6 r) w O S []:=by
 refine CW 19 Tryz.func229 ?_;refine SR<|xb (yH (cs:=[sb b.Name,i6 b.Kind,d,i6 b.First,i6 b.Every,i6 b.Times,i6 b.Step,e]) Z H) λv _ H=>zC (i6 0)<|RM<|SR<|zC (i6 0)<|RM<|bE a λf a i=>jo H (rg [3,1,5,13]) (λ(g:Unit)=>[(3,i6 f)]) (λg=>[]) [] ?_ ?_;refine SR<|zH (wL Z)<|Ld aCb H 2 2 Z Z<|ln a (H.im 0 Z) aFp λA a=>zB (i6 0)<|RM<|zK<|lo a H (rg [3,1,5,1,9,9]) (λx (y:Unit)=>[(3,i6 x.1),(9,i6 x.2)]) (λx y=>[]) [0] () (H.U [0]) ?_;clear H a;rintro B ⟨j,k⟩ _ ρ C H a;have H:=un1 H;refine SR<|fP a λD a=>RM<|SQ<|WJ a (λa=>WZ<|SQ<|zK<|SR<|bE a λc h a=>?_) λa=>?_;obtain⟨l,m,_,_,n,o,p,q,s⟩:=yY (H.im 0 Z) h;obtain rfl:=sD o;have H:=H.fz (.at l (m+k.toNat*4) _) ⟨p,q,s⟩;refine ix aFp rW n h<|zH (yJ (zZ (cs:=[i6 c.Frame,i6 c.Word,i6 c.Low,i6 c.Bits]) aEe Z rW Z (H.im 1 Z).2.2) Z)<|xb (zW aGg H) λ_ _ H=>xu (zS (vs:=[i6 c.Frame,i6 c.Word,i6 c.Low,i6 c.Bits]) H 2 Z rW Z Z Z ⟨Z,Z,Z,Z,T1⟩ Z) λ_ H=>RM<|zF<|zB (i6 j)<|zH (aMn Z)<|Ld fB H 2 3 Z Z<|fQ a λt a=>zC (i6 t)<|(eQ (zV (zJ (KN ?_))));exact zF<|fQ a λu a=>zB (i6 u)<|jn<|me a () (H.U [0]);cases a;exact zY<|zM<|zM<|zT<|zJ<|mt () (H.U []);rintro _ ρ _ H;have a:=i;refine SR<|zB (i6 f)<|zC (i6 f)<|RM ?_;cases a;exact zI<|p1z ⟨Z,H.U []⟩
theorem Felw {e:List Int}{d r:Int}{c:Value}(a:Fel e d=some r)(H:Hd O w w S [aKn c e]):
  Rt 269 [c,i6 d] (i6 r) w O S []:=by
 refine CW 19 Tryz.func269 ?_;refine SR<|zC (i6 0)<|RM<|jk a H (rg [4,15]) (λx (y:Unit)=>[]) (λx y=>[]) [] (λi a=>?_) ?_;refine SR<|zB c<|ln a (H.im 0 Z) u50 λj a=>zB (i6 0)<|RM<|zK<|lo a H (rg [4,2,8,11]) (λx (y:Unit)=>[(8,i6 x)]) (λx y=>[]) [0] () (H.U [0]) ?_;clear H a;rintro k b _ ρ l H a;have H:=un1 H;refine SR<|fP a λm a=>RM<|SQ<|WJ a (λa=>WZ<|SQ<|zK<|SR<|zB (i6 b)<|zC (i6 b)<|RM<|SR<|zB (i6 d)<|zB c<|zB (i6 b)<|bE a λf g a=>rea H (H.im 0 Z) (i6 f) g u50 sz3 fB λ_ o H=>dV a λ_ a=>RM<|WJ a (λa=>SR<|zB (i6 b)<|zC (i6 b)<|RM ?_) λa=>?_) λa=>?_;cases a;exact zI<|zN<|zG<|zG<|zN<|zG<|p1z ⟨Z,H.U []⟩;exact yL<|zV<|zJ<|KN<|zF<|fQ a λh a=>zB (i6 h)<|jn<|me a () (H.U [0]);exact zY<|zM<|zM<|zT<|zJ<|me a () (H.U []);rintro _ _ ρ _ H a;refine SR<|zC (i6 (-1))<|RM ?_;cases a;exact zI<|p1z ⟨Z,H.U []⟩
theorem Fcaw {d:List Int}{b:Int}{c:Value}{r:Bool}(a:Fca d b=some r)(H:Hd O w w S [aKn c d]):
  Rt 230 [c,i6 b] (vb r) w O S []:=by
 refine CW 9 Tryz.func230 ?_;refine SR<|zC (vb false)<|RM<|SR<|zB c<|zB (i6 b)<|bE a λg e a=>RC (fD Tryz.func269) (Felw e (H.W [] [0])) H λh H=>nK a λf a=>zC (vb f)<|RM ?_;cases a;exact zI<|p1z ⟨Z,H.U []⟩
theorem Fciw {b:Param}{d e:Value}{r:Int}(a:Fci b=some r)(H:Hd O w w S [mJ d b.Parts,bI e b.Names]):
  Rt 167 [.agg [sb b.Name,i6 b.Kind,d,i6 b.First,i6 b.Every,i6 b.Times,i6 b.Step,e].toArray] (i6 r) w O S []:=by
 refine CW 112 Tryz.func167 ?_;refine SR<|xb (yH (cs:=[sb b.Name,i6 b.Kind,d,i6 b.First,i6 b.Every,i6 b.Times,i6 b.Step,e]) Z H) λh _ H=>zC (i6 0)<|RM<|SQ<|zK<|SR<|zH (wL Z)<|Ld aCb H 2 2 Z Z<|ln a (H.im 0 Z) aFp λ_ a=>dV a λu a=>zC (vb u)<|RM<|WJ a (λa=>SR<|zC (i6 13)<|RM ?_) λa=>?_;cases a;exact zI<|zN<|zG<|p1z ⟨Z,H.U []⟩;refine SR<|zH (wL Z)<|Ld aCb H 2 2 Z Z<|ln a (H.im 0 Z) aFp λ_ a=>jA a λv a=>zC (vb v)<|RM<|WJ a (λa=>SR<|zC (i6 3)<|RM ?_) λa=>?_;cases a;exact zI<|zN<|zG<|p1z ⟨Z,H.U []⟩;refine yL<|zV<|zJ<|KN<|jk a H (rg [2,1,4,1,18,33]) (λx (y:Unit)=>[]) (λx y=>[]) [0,1,2] (λ_ a=>?_) ?_;refine SR<|zH (wL Z)<|Ld aCb H 2 2 Z Z<|ln a (H.im 0 Z) aFp λa9 a=>zB (i6 0)<|RM<|zK<|lo a H (rg [2,1,4,1,21,30]) (λx (y:Unit)=>[(21,i6 x)]) (λx y=>[]) [0,1,2] () (H.U [0,1,2]) ?_;clear H a;rintro _ j _ ρ _ H a;have H:=un3 H;refine SR<|fP a λ_ a=>RM<|SQ<|WJ a (λa=>WZ<|SQ<|zK<|SR<|bE a λc n a=>?_) λa=>?_;obtain⟨k,l,_,_,z,A,B,C,D⟩:=yY (H.im 0 Z) n;obtain rfl:=sD A;have H:=H.fz (.at k (l+j.toNat*4) _) ⟨B,C,D⟩;refine ix aFp rW z n<|zH (yJ (zZ (cs:=[i6 c.Frame,i6 c.Word,i6 c.Low,i6 c.Bits]) aEe Z rW Z (H.im 3 Z).2.2) Z)<|xb (zW aGg H) λo bf H=>xu (zS (vs:=[i6 c.Frame,i6 c.Word,i6 c.Low,i6 c.Bits]) H 4 Z rW Z Z Z ⟨Z,Z,Z,Z,T1⟩ Z) λ_ H=>RM<|bE a λE a F=>jo H (rg [25,25]) (λ(g:Unit)=>[(49,vb E)]) (λg=>[]) [0,1,2] ?_ ?_
 refine zF<|zH (aLg Z)<|Ld fB H 4 0 Z Z<|bE a λ_ G a=>RC aEt (aOn G (H.W [] [])) H λ_ H=>dD a λ_ a=>bE a λI a J=>yV 6 [29,30,31,32,33,34] [(34,vb I)] (λwl=>Hd O w wl S [mJ d b.Parts,bI e b.Names,.blk h [sb b.Name,i6 b.Kind,d,i6 b.First,i6 b.Every,i6 b.Times,i6 b.Step,e] 128,.fz (.at k (l+j.toNat*4) [i6 c.Frame,i6 c.Word,i6 c.Low,i6 c.Bits]),.blk o [i6 c.Frame,i6 c.Word,i6 c.Low,i6 c.Bits] 251]) ?_ ?_;refine RJ a (λa=>zQ<|zQ<|zQ<|zQ<|pt (vb true) ?_) λa=>?_;cases a;exact jn<|meet ⟨(yA Z yG),H.U (rg [0,5])⟩;refine zH (aMb Z)<|Ld fB H 4 1 Z Z<|bE a λ_ K a=>RC aEt (aOn K (H.W [] [])) H λ_ H=>dD a λL a=>pf (vb L) ?_;cases a;exact jn<|meet ⟨(yA Z yG),H.U (rg [0,5])⟩;rintro ρ _ H;have a:=J;refine bE a λM a N=>yV 6 [35,36,37,38,39,40] [(40,vb M)] (λwl=>Hd O w wl S [mJ d b.Parts,bI e b.Names,.blk h [sb b.Name,i6 b.Kind,d,i6 b.First,i6 b.Every,i6 b.Times,i6 b.Step,e] 128,.fz (.at k (l+j.toNat*4) [i6 c.Frame,i6 c.Word,i6 c.Low,i6 c.Bits]),.blk o [i6 c.Frame,i6 c.Word,i6 c.Low,i6 c.Bits] 251]) ?_ ?_;refine RJ a (λa=>zQ<|zQ<|zQ<|zQ<|pt (vb true) ?_) λa=>?_;cases a;exact jn<|meet ⟨(yA Z yG),H.U (rg [0,5])⟩;refine zH (aMm Z)<|Ld fB H 4 2 Z Z<|bE a λ_ P a=>RC aEt (aOn P (H.W [] [])) H λ_ H=>dD a λQ a=>pf (vb Q) ?_;cases a;exact jn<|meet ⟨(yA Z yG),H.U (rg [0,5])⟩;rintro ρ _ H;have a:=N;refine RJ a (λa=>zQ<|zQ<|zQ<|zQ<|zQ<|zQ<|zQ<|pt (vb true) ?_) λa=>?_
 cases a;exact jn<|mt () (H.U [0,1,2]);refine zH (aMn Z)<|Ld fB H 4 3 Z Z<|zH (aMm Z)<|Ld fB H 4 2 Z Z<|aGs a λ_ a=>bE a λ_ R a=>RC aEt (aOn R (H.W [] [])) H λ_ H=>dD a λT a=>pf (vb T) ?_;cases a;exact jn<|mt () (H.U [0,1,2]);rintro _ ρ _ H;have H:=un3 H;have a:=F;refine WJ a (λa=>SR<|zC (i6 9)<|RM ?_) λa=>?_;cases a;exact zI<|zN<|zG<|zG<|zN<|zG<|p1z ⟨Z,H.U []⟩;exact yL<|zV<|zJ<|KN<|zF<|fQ a λU a=>zB (i6 U)<|jn<|me a () (H.U [0,1,2]);exact zY<|zM<|zM<|zT<|zJ<|me a () (H.U [0,1,2]);rintro _ _ ρ _ H a;have H:=un3 H;refine SQ<|SR<|lb H 2 Z eX fZ<|bE a λ_ V a=>RC en229 (Fakw V (H.W [] [0,1])) H λ_ H=>jA a λ_ a=>RM<|WJ a (λa=>SR<|zC (i6 3)<|RM ?_) λa=>?_;cases a;exact zI<|zG<|p1z ⟨Z,H.U []⟩;refine WZ<|SR<|lE a λ_ X a=>?_;subst X;refine xv (kl kInt [1,2,4,8,16] u50 el3 H) λm _ H=>zH (aMi Z)<|Ld fB H 2 4 Z Z ?_;have Y:=H;have H:=H.freeze (i:=3) Z;refine bE a λs aa a=>RC (fD Tryz.func230) (Fcaw aa (H.W [] [3])) Y λ_ H=>zC (vb s)<|RM<|SQ<|bE a λab a ac=>jo H (rg [58,31]) (λ(g:Unit)=>[(88,vb ab)]) (λg=>[]) [0,1,2] ?_ ?_;refine zF<|zB (vb s)<|dD a λ_ a=>bE a λad a ae=>yV 9 [60,61,62,63,64,65,66,67,68] [(68,vb ad)] (λwl=>Hd O w wl S [mJ d b.Parts,bI e b.Names,.blk h [sb b.Name,i6 b.Kind,d,i6 b.First,i6 b.Every,i6 b.Times,i6 b.Step,e] 128,.own (Rp.int .i64) m 3 ([1,2,4,8,16]:List Int)]) ?_ ?_;refine RJ a ?_ ?_<;>intro a
 refine zQ<|zQ<|zQ<|zQ<|zQ<|zQ<|zQ<|pt (vb true) ?_;cases a;exact jn<|meet ⟨(yA Z yG),H.U [0,1,2,3]⟩;refine zH (aTv Z)<|Ld fB H 2 3 Z Z<|zH (aMi Z)<|Ld fB H 2 4 Z Z<|aGs a λ_ a=>bE a λ_ af a=>RC aEt (aOn af (H.W [] [])) H λ_ H=>dD a λag a=>pf (vb ag) ?_;cases a;exact jn<|meet ⟨(yA Z yG),H.U [0,1,2,3]⟩;rintro ρ _ H;have a:=ae;refine bE a λah a ai=>yV 6 [69,70,71,72,73,74] [(74,vb ah)] (λwl=>Hd O w wl S [mJ d b.Parts,bI e b.Names,.blk h [sb b.Name,i6 b.Kind,d,i6 b.First,i6 b.Every,i6 b.Times,i6 b.Step,e] 128,.own (Rp.int .i64) m 3 ([1,2,4,8,16]:List Int)]) ?_ ?_;refine RJ a (λa=>zQ<|zQ<|zQ<|zQ<|pt (vb true) ?_) λa=>?_;cases a;exact jn<|meet ⟨(yA Z yG),H.U [0,1,2,3]⟩;refine zH (vP Z)<|Ld fB H 2 5 Z Z<|bE a λ_ aj a=>RC aEt (aOn aj (H.W [] [])) H λ_ H=>dD a λak a=>pf (vb ak) ?_;cases a;exact jn<|meet ⟨(yA Z yG),H.U [0,1,2,3]⟩;rintro ρ _ H;have a:=ai;refine bE a λal a am=>yV 5 [75,76,77,78,79] [(79,vb al)] (λwl=>Hd O w wl S [mJ d b.Parts,bI e b.Names,.blk h [sb b.Name,i6 b.Kind,d,i6 b.First,i6 b.Every,i6 b.Times,i6 b.Step,e] 128,.own (Rp.int .i64) m 3 ([1,2,4,8,16]:List Int)]) ?_ ?_;refine RJ a (λa=>zQ<|zQ<|zQ<|pt (vb true) ?_) λa=>?_;cases a;exact jn<|meet ⟨(yA Z yG),H.U [0,1,2,3]⟩;refine zH (aCq Z)<|Ld fB H 2 6 Z Z<|fP a λan a=>pf (vb an) ?_;cases a;exact jn<|meet ⟨(yA Z yG),H.U [0,1,2,3]⟩;rintro ρ _ H;have a:=am;refine RJ a ?_ ?_<;>intro a
 refine zQ<|zQ<|zQ<|zQ<|zQ<|zQ<|zQ<|pt (vb true) ?_;cases a;exact jn<|mt () (H.U [0,1,2]);refine zH (aCq Z)<|Ld fB H 2 6 Z Z<|dV a λao a=>zH (vP Z)<|Ld fB H 2 5 Z Z<|dV a λap a=>RLb a (aUn (p:=ao) (q:=ap) u4 Z Z) λaq a=>pf (vb aq) ?_;cases a;exact jn<|mt () (H.U [0,1,2]);rintro _ ρ _ H;have H:=un3 H;have a:=ac;refine WJ a (λa=>SR<|zC (i6 9)<|RM ?_) λa=>?_;cases a;exact zI<|zG<|p1z ⟨Z,H.U []⟩;refine WZ<|jk a H (rg [2,1,7,1,89,23]) (λx (y:Unit)=>[]) (λx y=>[]) [] (λ_ a=>?_) ?_;refine SR<|zH (wL Z)<|Ld aCb H 2 2 Z Z<|ln a (H.im 0 Z) aFp λ_ a=>zB (i6 0)<|RM<|zK<|lo a H (rg [2,1,7,1,92,20]) (λx (y:Unit)=>[(92,i6 x)]) (λx y=>[]) [0,1,2] () (H.U [0,1,2]) ?_;clear H a;rintro _ ar _ ρ _ H a;have H:=un3 H;refine SR<|fP a λ_ a=>RM<|SQ<|WJ a (λa=>WZ<|SQ<|zK<|SR<|bE a λf t a=>?_) λa=>?_;obtain⟨au,av,_,_,aw,ax,ay,az,a0⟩:=yY (H.im 0 Z) t;obtain rfl:=sD ax;have H:=H.fz (.at au (av+ar.toNat*4) _) ⟨ay,az,a0⟩;refine ix aFp rW aw t<|zH (yJ (zZ (cs:=[i6 f.Frame,i6 f.Word,i6 f.Low,i6 f.Bits]) aEe Z rW Z (H.im 3 Z).2.2) Z)<|xb (zW aGg H) λ_ _ H=>xu (zS (vs:=[i6 f.Frame,i6 f.Word,i6 f.Low,i6 f.Bits]) H 4 Z rW Z Z Z ⟨Z,Z,Z,Z,T1⟩ Z) λ_ H=>RM<|bE a λa1 a a2=>jo H (rg [96,15]) (λ(g:Unit)=>[(110,vb a1)]) (λg=>[]) [0,1,2] ?_ ?_;refine zF<|zH (aCq Z)<|Ld fB H 2 6 Z Z<|jA a λ_ a=>RJ a ?_ ?_<;>intro a
 refine zQ<|zQ<|zQ<|zQ<|zQ<|zQ<|zQ<|zQ<|zQ<|zQ<|pt (vb true) ?_;cases a;exact jn<|mt () (H.U [0,1,2]);refine zH (aMb Z)<|Ld fB H 4 1 Z Z<|zH (vP Z)<|Ld fB H 2 5 Z Z<|aGs a λ_ a=>zH (aCq Z)<|Ld fB H 2 6 Z Z<|aLz a λ_ a=>fQ a λ_ a=>jA a λa3 a=>pf (vb a3) ?_;cases a;exact jn<|mt () (H.U [0,1,2]);rintro _ ρ _ H;have H:=un3 H;have a:=a2;refine WJ a (λa=>SR<|zC (i6 9)<|RM ?_) λa=>?_;cases a;exact zI<|zN<|zG<|zG<|zN<|zG<|p1z ⟨Z,H.U []⟩;exact yL<|zV<|zJ<|KN<|zF<|fQ a λa4 a=>zB (i6 a4)<|jn<|me a () (H.U [0,1,2]);exact zY<|zM<|zM<|zT<|zJ<|me a () (H.U []);rintro _ _ ρ _ H a;refine SR<|zC (i6 0)<|RM ?_;cases a;exact zI<|p1z ⟨Z,H.U []⟩
theorem Fc3w {e:List Str}{c:Str}{d:Value}{r:Int}(a:Fc3 e c=some r)(H:Hd O w w S [bI d e]):
  Rt 201 [d,sb c] (i6 r) w O S []:=by
 refine CW 19 Tryz.func201 ?_;refine SR<|zC (i6 0)<|RM<|jk a H (rg [4,15]) (λx (y:Unit)=>[]) (λx y=>[]) [] (λi a=>?_) ?_;refine SR<|zB d<|ln a (H.im 0 Z) u29 λj a=>zB (i6 0)<|RM<|zK<|lo a H (rg [4,2,8,11]) (λx (y:Unit)=>[(8,i6 x)]) (λx y=>[]) [0] () (H.U [0]) ?_;clear H a;rintro k b _ ρ l H a;have H:=un1 H;refine SR<|fP a λm a=>RM<|SQ<|WJ a (λa=>WZ<|SQ<|zK<|SR<|zB (i6 b)<|zC (i6 b)<|RM<|SR<|zB (sb c)<|zB d<|zB (i6 b)<|bE a λf g a=>rea H (H.im 0 Z) (sb f) g u29 sz9 kC λ_ o H=>RLb a (eH (s1:=c) (s2:=f) Z Z) λ_ a=>RM<|WJ a (λa=>SR<|zB (i6 b)<|zC (i6 b)<|RM ?_) λa=>?_) λa=>?_;cases a;exact zI<|zN<|zG<|zG<|zN<|zG<|p1z ⟨Z,H.U []⟩;exact yL<|zV<|zJ<|KN<|zF<|fQ a λh a=>zB (i6 h)<|jn<|me a () (H.U [0]);exact zY<|zM<|zM<|zT<|zJ<|me a () (H.U []);rintro _ _ ρ _ H a;refine SR<|zC (i6 (-1))<|RM ?_;cases a;exact zI<|p1z ⟨Z,H.U []⟩
theorem Fbxw {d:List Str}{b:Str}{c:Value}{r:Bool}(a:Fbx d b=some r)(H:Hd O w w S [bI c d]):
  Rt 132 [c,sb b] (vb r) w O S []:=by
 refine CW 9 Tryz.func132 ?_;refine SR<|zC (vb false)<|RM<|SR<|zB c<|zB (sb b)<|bE a λg e a=>RC en201 (Fc3w e (H.W [] [0])) H λh H=>nK a λf a=>zC (vb f)<|RM ?_;cases a;exact zI<|p1z ⟨Z,H.U []⟩
theorem Fcvw {d:Param}{e f:Value}{r:Int}(c:Fcv d=some r)(H:Hd O w w S [mJ e d.Parts,bI f d.Names]):
  Rt 168 [.agg [sb d.Name,i6 d.Kind,e,i6 d.First,i6 d.Every,i6 d.Times,i6 d.Step,f].toArray] (i6 r) w O S []:=by
 refine CW 82 Tryz.func168 ?_;refine SR<|xb (yH (cs:=[sb d.Name,i6 d.Kind,e,i6 d.First,i6 d.Every,i6 d.Times,i6 d.Step,f]) Z H) λi _ H=>zC (i6 0)<|RM<|SR<|lb H 2 Z eX fZ<|bE c λg s c=>RC en229 (Fakw s (H.W [] [0,1])) H λ_ H=>zC (i6 g)<|RM<|SQ<|bE c λt c u=>sJ H (rg [8,31]) [(38,vb t)] ?_ ?_;refine zF<|zH (wF Z)<|Ld fB H 2 1 Z Z<|dV c λ_ c=>bE c λz c A=>yV 5 [11,12,13,14,15] [(15,vb z)] (λwl=>Hd O w wl S [mJ e d.Parts,bI f d.Names,.blk i [sb d.Name,i6 d.Kind,e,i6 d.First,i6 d.Every,i6 d.Times,i6 d.Step,f] 128]) ?_ ?_;refine RJ c (λc=>zB (i6 g)<|bE c λ_ B c=>zH (aCn (j:=g) (q:=4) Z Z B)<|bT c λC c=>pt (vb C) ?_) λc=>?_;cases c;exact jn<|meet ⟨(yA Z yG),H.U [0,1,2]⟩;refine zQ<|zQ<|zQ<|pf (vb false) ?_;cases c;exact jn<|meet ⟨(yA Z yG),H.U [0,1,2]⟩;rintro ρ _ H;have c:=A;refine bE c λD c E=>yV 9 [16,17,18,19,20,21,22,23,24] [(24,vb D)] (λwl=>Hd O w wl S [mJ e d.Parts,bI f d.Names,.blk i [sb d.Name,i6 d.Kind,e,i6 d.First,i6 d.Every,i6 d.Times,i6 d.Step,f] 128]) ?_ ?_;refine RJ c (λc=>zQ<|zQ<|zQ<|zQ<|zQ<|zQ<|zQ<|pt (vb true) ?_) λc=>?_;cases c;exact jn<|meet ⟨(yA Z yG),H.U [0,1,2]⟩;refine zH (wF Z)<|Ld fB H 2 1 Z Z<|dV c λ_ c=>RJ c (λc=>zB (i6 g)<|bT c λm c=>pt (vb m)<|pf (vb m) ?_) λc=>?_;cases c;exact jn<|meet ⟨(yA Z yG),H.U [0,1,2]⟩;refine zQ<|zQ<|pf (vb false)<|pf (vb false) ?_;cases c;exact jn<|meet ⟨(yA Z yG),H.U [0,1,2]⟩
 rintro ρ _ H;have c:=E;refine RJ c (λc=>zQ<|zQ<|zQ<|zQ<|zQ<|zQ<|zQ<|zQ<|zQ<|zQ<|zQ<|zQ<|pt (vb true) ?_) λc=>?_;cases c;exact jn<|mt () (H.U [0,1,2]);refine zH (wF Z)<|Ld fB H 2 1 Z Z<|dV c λ_ c=>bE c λF c G=>yV 5 [29,30,31,32,33] [(33,vb F)] (λwl=>Hd O w wl S [mJ e d.Parts,bI f d.Names,.blk i [sb d.Name,i6 d.Kind,e,i6 d.First,i6 d.Every,i6 d.Times,i6 d.Step,f] 128]) ?_ ?_;refine RJ c (λc=>zQ<|zQ<|zQ<|pt (vb true) ?_) λc=>?_;cases c;exact jn<|meet ⟨(yA Z yG),H.U [0,1,2]⟩;refine zH (wF Z)<|Ld fB H 2 1 Z Z<|dV c λI c=>pf (vb I) ?_;cases c;exact jn<|meet ⟨(yA Z yG),H.U [0,1,2]⟩;rintro ρ _ H;have c:=G;refine RJ c (λc=>zB (i6 g)<|dV c λn c=>pt (vb n)<|pf (vb n) ?_) λc=>?_;cases c;exact jn<|mt () (H.U [0,1,2]);refine zQ<|zQ<|pf (vb false)<|pf (vb false) ?_;cases c;exact jn<|mt () (H.U [0,1,2]);rintro _ ρ _ H;have c:=u;refine WJ c (λc=>SR<|zC (i6 2)<|RM ?_) λc=>?_;cases c;exact zI<|zG<|p1z ⟨Z,H.U []⟩;refine WZ<|SQ<|SR<|zH (wF Z)<|Ld fB H 2 1 Z Z<|bT c λ_ c=>RM<|WJ c (λc=>SQ<|SR<|zH (vX Z)<|Ld xZ H 2 7 Z Z<|ln c (H.im 1 Z) u29 λ_ c=>jA c λ_ c=>RM<|WJ c (λc=>SR<|zC (i6 2)<|RM ?_) λc=>?_) λc=>?_;cases c;exact zI<|zG<|zG<|p1z ⟨Z,H.U []⟩;refine WZ<|SR<|zC (i6 0)<|RM ?_;cases c;exact zI<|zG<|p1z ⟨Z,H.U []⟩;refine WZ<|SQ<|zK<|SR<|zH (vX Z)<|Ld xZ H 2 7 Z Z<|ln c (H.im 1 Z) u29 λ_ c=>dV c λJ c=>zC (vb J)<|RM<|WJ c ?_ ?_<;>intro c
 refine SR<|zC (i6 13)<|RM ?_;cases c;exact zI<|zN<|zG<|p1z ⟨Z,H.U []⟩;refine bE c λK c L=>sJ H (rg [51,13]) [(51,vb K)] ?_ ?_;have o:=H;have H:=H.rb;have az:=H;refine xI H (rg [0,13]) (kz [0,1,0,0,0,0,1,0,0,0,0,0,0]) mixed ?_;refine XQ (vX Z)<|XR xZ H 2 7 Z Z<|lE c λM N c=>?_;obtain⟨a0,_,P⟩:=SlF.len ((H.im 1 Z));refine XQ (yJ (bQ u29 P) (congrArg (Value.int .i64) N))<|lE c λQ R c=>XQ (aC (aCa (a:=M) (b:=64) Z Z) R)<|MxM.XL_splitb (b:=Q) Z Z Z Z (λk=>?_) (λk=>?_);have c:=uK k c;refine XO<|MxM.XL_offr oS Z Z Z ?_;refine XO<|XO<|XO<|XO<|XQ (kT (v:=vb true) Z Z)<|XQ (yT (v:=vb true) Z)<|nJ o H λa2 H=>?_;cases c;exact zJ<|mt () (H.U [0,1,2]);have c:=uD k c;refine XQ (vX Z)<|XR xZ H 2 7 Z Z<|lE c λT U c=>?_;obtain⟨a3,a4,V⟩:=SlF.len ((H.im 1 Z));refine XQ (yJ (bQ u29 V) (congrArg (Value.int .i64) U))<|XM (i6 g)<|bE c λX Y c=>XQ (wH (j:=1) (q:=g) Z Z Y)<|lE c λp aa c=>XQ (aC (aCa (a:=T) (b:=X) Z Z) aa)<|XQ (jO (v:=vb p) Z Z)<|XQ (yT (v:=vb p) Z)<|nJ o H λa5 H=>?_;cases c;exact zJ<|mt () (H.U [0,1,2]);rintro _ ρ _ H;have c:=L;refine WJ c (λc=>SR<|zC (i6 3)<|RM ?_) λc=>?_;cases c;exact zI<|zN<|zG<|p1z ⟨Z,H.U []⟩;refine yL<|zV<|zJ<|KN<|jk c H (rg [2,1,4,2,64,18]) (λx (y:Unit)=>[]) (λx y=>[]) [] (λ_ c=>?_) ?_;refine SR<|zH (vX Z)<|Ld xZ H 2 7 Z Z<|ln c (H.im 1 Z) u29 λ_ c=>zB (i6 0)<|RM<|zK<|lo c H (rg [2,1,4,2,67,15]) (λx (y:Unit)=>[(67,i6 x)]) (λx y=>[]) [0,1,2] () (H.U [0,1,2]) ?_
 clear H c;rintro a9 l _ ρ _ H c;have H:=un3 H;refine SR<|fP c λ_ c=>RM<|SQ<|WJ c (λc=>WZ<|SQ<|zK<|SR<|zB (i6 l)<|bE c λh ab c=>rea H (H.im 1 Z) (sb h) ab u29 sz9 kC λ_ _ H=>zC (i6 l)<|zC (sb h)<|RM<|SQ<|SR<|zB (sb h)<|bE c λ_ ac c=>RC en166 (Fbkw ac (H.W [] [])) H λbf H=>dD c λ_ c=>RM<|WJ c (λc=>SR<|zC (i6 8)<|RM ?_) λc=>?_) λc=>?_;cases c;exact zI<|zG<|zN<|zG<|zG<|zN<|zG<|p1z ⟨Z,H.U []⟩;refine WZ<|SR<|zH (vX Z)<|Ld xZ H 2 7 Z Z<|zB (i6 l)<|bE c λad ae c=>wY Z Z (rQ u29 sz9 (H.im 1 Z) Z Z ae) ?_;rintro af ag;have H:=H.fz (.sl Rp.str af ad) ag;refine zB (sb h)<|bE c λ_ ah c=>RC (fD Tryz.func132) (Fbxw ah (H.W [] [4])) H λ_ H=>RM<|WJ c (λc=>SR<|zC (i6 5)<|RM ?_) λc=>?_;cases c;exact zI<|zN<|zG<|zG<|zN<|zG<|p1z ⟨Z,H.U []⟩;exact yL<|zV<|zJ<|KN<|zF<|fQ c λai c=>zB (i6 ai)<|jn<|me c () (H.U [0,1,2]);exact zY<|zM<|zM<|zT<|zJ<|me c () (H.U []);rintro _ _ ρ _ H c;refine SR<|zC (i6 0)<|RM ?_;cases c;exact zI<|p1z ⟨Z,H.U []⟩
theorem Fcww {b:Param}{f g:Value}{r:Int}(a:Fcw b=some r)(H:Hd O w w S [mJ f b.Parts,bI g b.Names]):
  Rt 106 [.agg [sb b.Name,i6 b.Kind,f,i6 b.First,i6 b.Every,i6 b.Times,i6 b.Step,g].toArray] (i6 r) w O S []:=by
 refine CW 45 Tryz.func106 ?_;refine SR<|xb (yH (cs:=[sb b.Name,i6 b.Kind,f,i6 b.First,i6 b.Every,i6 b.Times,i6 b.Step,g]) Z H) λ_ _ H=>zC (i6 0)<|RM<|SQ<|SR<|zH (aDe Z)<|Ld kC H 2 0 Z Z<|bE a λ_ l a=>RC en166 (Fbkw l (H.W [] [])) H λ_ H=>dD a λ_ a=>RM<|WJ a (λa=>SR<|zC (i6 8)<|RM ?_) λa=>?_;cases a;exact zI<|zG<|p1z ⟨Z,H.U []⟩;refine WZ<|SQ<|SR<|zH (wF Z)<|Ld fB H 2 1 Z Z<|bE a λ_ m a=>RC aEt (aOn m (H.W [] [])) H λ_ H=>dD a λN a=>RM<|WJ a (λa=>SR<|zC (i6 7)<|RM ?_) λa=>?_;cases a;exact zI<|zG<|p1z ⟨Z,H.U []⟩;refine WZ<|SQ<|SR<|lb H 2 Z eX fZ<|bE a λd n a=>RC (fD Tryz.func167) (Fciw n (H.W [] [0,1])) H λP H=>zC (i6 d)<|RM<|SR<|zB (i6 d)<|bT a λQ a=>RM<|WJ a (λa=>SR<|zB (i6 d)<|zC (i6 d)<|RM ?_) λa=>?_;cases a;exact zI<|zG<|p1z ⟨Z,H.U []⟩;refine WZ<|SQ<|SR<|lb H 2 Z eX fZ<|bE a λe o a=>RC (fD Tryz.func168) (Fcvw o (H.W [] [0,1])) H λ_ H=>zC (i6 e)<|RM<|SR<|zB (i6 e)<|bT a λT a=>RM<|WJ a (λa=>SR<|zB (i6 e)<|zC (i6 e)<|RM ?_) λa=>?_;cases a;exact zI<|zG<|p1z ⟨Z,H.U []⟩;refine WZ<|SR<|sK Z Z (vG H) ?_;rintro _ U ⟨h,rfl,H⟩;refine zC (.map (some h))<|RM<|SR<|lb H 2 Z eX fZ<|bE a λV p a=>cAa en157 (Fapw p (H.W [] [0,1])) λi X q=>?_;have H:=H.back1 [0,1] Z q;refine zC i<|RM<|jk a H (rg [2,1,8,1,30,12]) (λx (y:Unit)=>[]) (λx y=>[]) [4] (λY a=>?_) ?_
 refine SR<|zB i ?_;obtain⟨_,_,s⟩:=Sr.len (Sr.xO (H.im 4 Z));refine RLi a (bQ u131 s) λ_ a=>zB (i6 0)<|RM<|zK<|lo a H (rg [2,1,8,1,32,10]) (λx (y:Unit)=>[(32,i6 x.1)]) (λx y=>[.mp h (dG dB (λv=>Value.int .i64 v) x.2)]) [0,5] () (H.U [3,4]) ?_;clear H a;rintro _ ⟨_,af⟩ _ ρ _ H a;have H:=un2 H;refine SR<|fP a λ_ a=>RM<|SQ<|WJ a (λa=>WZ<|SQ<|zK<|SR<|bE a λc k a=>?_) λa=>?_;obtain⟨_,_,_,t,u,z⟩:=mZ (H.im 1 Z) k;obtain⟨j,rfl,A⟩:=vM u;have H:=H.fzs [.sl kN j c.Places] ⟨A,T1⟩;refine ix u131 rV t k<|zH (yJ (zZ (cs:=[i6 c.Param,i6 c.Index,i6 c.Frame,j]) aDn Z rV Z z) Z)<|xb (zW aCt H) λ_ _ H=>xu (zS (vs:=[i6 c.Param,i6 c.Index,i6 c.Frame,j]) H 3 Z rV Z Z Z ⟨Z,Z,Z,(yX (H.im 2 Z)),T1⟩ Z) λ_ H=>RM<|SR<|zB (.map (some h))<|zH (aDi Z)<|Ld aLr H 3 3 Z Z ?_;obtain⟨⟨_,_⟩,B,a⟩:=yD a;refine cAz en158 (Fbnw B (H.W [0] [2])) λ_ C=>?_;have H:=un4<|H.back [0] [2] Z C;refine dD a λ_ a=>RM<|WJ a (λa=>SR<|zC (i6 5)<|RM ?_) λa=>?_;cases a;exact zI<|zN<|zG<|zG<|zN<|zG<|p1z ⟨Z,H.U []⟩;exact yL<|zV<|zJ<|KN<|zF<|fQ a λD a=>zB (i6 D)<|jn<|me a () (H.U [3,0]);exact zY<|zM<|zM<|zT<|zJ<|me a () (H.U [1]);rintro _ _ ρ _ H a;have H:=un1 H;refine SQ<|SR<|zB i ?_;obtain⟨_,_,E⟩:=Sr.len (Sr.xO (H.im 0 Z));refine RLi a (bQ u131 E) λ_ a=>dV a λ_ a=>RM<|WJ a (λa=>SR<|zC (i6 13)<|RM ?_) λa=>?_;cases a;exact zI<|zG<|p1z ⟨Z,H.U []⟩
 refine WZ<|SR<|zC (i6 0)<|RM ?_;cases a;exact zI<|p1z ⟨Z,H.U []⟩
end Go.Proofs.YtbjofgmdhbiekaaGreatDoor.L
