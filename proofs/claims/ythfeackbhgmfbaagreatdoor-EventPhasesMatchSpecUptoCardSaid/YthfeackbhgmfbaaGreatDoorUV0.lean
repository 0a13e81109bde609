/- Walks that the claim stands on; no condition beyond those stated. -/
import Derived.Test.YthfeackbhgmfbaaGreatDoorUP
import Derived.Test.YthfeackbhgmfbaaGreatDoorXVq
import Derived.Test.YthfeackbhgmfbaaGreatDoorXVr
namespace Go.Proofs.YthfeackbhgmfbaaGreatDoor.L
open Go.RowKit Go.OB Go.Lf
set_option maxRecDepth 100000
set_option maxHeartbeats 4000000
abbrev vb:=Value.bool
theorem T1:True:=trivial
abbrev cE (c:Cond):Cond:=Cond.mk c.Kind c.Name c.Other c.Op c.N c.Frames c.Kids
theorem Z {α:Sort _}{a:α}:a=a:=rfl
variable {O S:List Nat}{w:World}
abbrev En (f:FuncId):Prop:=Go.OB.Enters Tryz.prog f
theorem CW {P:Program}{f:FuncId}{fn:Func}{c:Code}{args:List Value}{w:World}{R:Ending->World->Prop}(N:Nat)(hf:P.funcs[f]? =some fn)(h:WP P N c (aAd P fn.results R) (aNo args) w)(hb:fn.body=some c:=by exact rfl)(hN:fn.ntmps=N:=by exact rfl)(hl:Nat.ble args.length N=true:=by exact rfl):Calls P f args.toArray w R:=tV N hf hb hN hl h
theorem mt {W:List Nat}{ρ ρ':Env}{G:Type}{S:G->List (Nat×Value)}{B:G->Prop}(g:G)(h:B g)(hs:Sl ρ' (S g):=by repeat (first |exact yV|refine yH rfl ?_))(hf:Fr W ρ ρ':=by repeat' (first |with_reducible exact aFv|refine aPp rfl ?_|refine aIm rfl rfl ?_)):Fr W ρ ρ'/\ ∃g,Sl ρ' (S g)/\B g:=⟨hf,g,hs,h⟩
theorem ml {W:List Nat}{ρ ρ':Env}{G:Type}{S:G->List (Nat×Value)}{B C:G->Prop}{μ:G->Nat}{n:Nat}(g:G)(h:B g)(c:C g)(hs:Sl ρ' (S g):=by repeat (first |exact yV|refine yH rfl ?_))(hn:μ g<n:=by exact Nat.lt_succ_self _)(hf:Fr W ρ ρ':=by repeat' (first |with_reducible exact aFv|refine aPp rfl ?_|refine aIm rfl rfl ?_)):Fr W ρ ρ'/\ ∃g,Sl ρ' (S g)/\(B g/\C g)/\μ g<n:=⟨hf,g,hs,⟨h,c⟩,hn⟩
def rg:List Nat->List Nat
 |a::n::l=>List.range' a n++rg l
 |_=>[]
section
variable {P:Program}{N:Nat}{ops:Array Oper}{Q Q':Exit->Env->World->Prop}{rest:List Oper}{ρ:Env}{w:World}{d:Nat}{op:Op}{ty:TypeId}{pos:String}{af:Array Edge}{gd:Option (Nat×Bool)}
theorem RLb {β:Type}{b:Bool}{k:Bool->Option β}{r:β}(a:gI b k=some r)(hd:Do P ⟨some d,op,ty,pos,af,gd⟩ ρ w (vb b) w)(n: ∀x,k x=some r->RL P N ops Q rest (upd ρ d (vb x)) w)(hw:fO N ops ρ ⟨some d,op,ty,pos,af,gd⟩=true:=by exact rfl)(c:Nat.blt d N=true:=by exact rfl):RL P N ops Q (⟨some d,op,ty,pos,af,gd⟩::rest) ρ w:=aX hw c hd (n b a)
theorem RLi {β:Type}{b:Int}{kk:IntKind}{k:Int->Option β}{r:β}(a:gI b k=some r)(hd:Do P ⟨some d,op,ty,pos,af,gd⟩ ρ w (.int kk b) w)(n: ∀x,k x=some r->RL P N ops Q rest (upd ρ d (.int kk x)) w)(hw:fO N ops ρ ⟨some d,op,ty,pos,af,gd⟩=true:=by exact rfl)(c:Nat.blt d N=true:=by exact rfl):RL P N ops Q (⟨some d,op,ty,pos,af,gd⟩::rest) ρ w:=aX hw c hd (n b a)
theorem WI {β:Type}{b:Bool}{x y:Option β}{r:β}{c:Operand}{s t:Code}(a:gU b x y=some r)(hc:ev ρ c=vb b)(ht:x=some r->WP P N s Q ρ w)(hf:y=some r->WP P N t Q ρ w):WP P N (.cond c s t) Q ρ w:=aPr hc (λc=>ht (rZ c a)) (λc=>hf (sN c a))
theorem RI {β:Type}{b:Bool}{x y:Option β}{r:β}{z:Operand}(a:gU b x y=some r)(hx:ev ρ z=vb b)(ht:x=some r->RL P N ops Q rest (upd ρ d (vb true)) w)(hf:y=some r->RL P N ops Q rest (upd ρ d (vb false)) w)(hw:fO N ops ρ ⟨some d,.move z,ty,pos,af,gd⟩=true:=by exact rfl)(e:Nat.blt d N=true:=by exact rfl):RL P N ops Q (⟨some d,.move z,ty,pos,af,gd⟩::rest) ρ w:=RL_splitb hw e hx (λc=>ht (rZ c a)) (λc=>hf (sN c a))
theorem RC {f:FuncId}{args:Array Operand}{at_:Array TypeId}{vs:List Value}{v:Value}{O c S:List Nat}{b:World}{l:List Th}(he:Go.OB.Enters P f)(hc:Calls P f vs.toArray w λe a=>e= .returned v/\Hd c w a [] [])(H:Hd O b w S l)(k: ∀a,Hd O b a S l->RL P N ops Q rest (upd ρ d v) a)(ha:args.toList.map (ev ρ)=vs:=by exact rfl)(hw:fO N ops ρ ⟨some d,.call {callee:= .value (.func f),args:=args,argTypes:=at_},ty,pos,af,gd⟩=true:=by exact rfl)(h:Nat.blt d N=true:=by exact rfl):RL P N ops Q (⟨some d,.call {callee:= .value (.func f),args:=args,argTypes:=at_},ty,pos,af,gd⟩::rest) ρ w:=by
 refine xG hw h (yD he ha) hc ?_;rintro _ a ⟨rfl,G⟩;exact⟨_,rfl,k _ (H.step G.only)⟩
end
section
variable {P:Program}{N:Nat}{ops:Array Oper}{Q Q':Exit->Env->World->Prop}{rest:List Oper}{ρ:Env}{w:World}{d:Nat}{t u ty:TypeId}{x y:Operand}{pos:String}{af:Array Edge}{g:Option (Nat×Bool)}
def KK (P:Program)(N:Nat)(y:Code)(Q:Exit->Env->World->Prop):Env->World->Prop:=WP P N y Q
theorem SQ {x y:Code}(h:WP P N x (pK (KK P N y Q) Q) ρ w):WP P N (.seq x y) Q ρ w:=aXk h λ_ _ h=>h
theorem SR {id:Nat}{l:List Oper}{y:Code}(h:RL P N l.toArray (pK (KK P N y Q) Q) l ρ w):WP P N (.seq (.region id l.toArray false) y) Q ρ w:=SQ (zD h)
theorem RM {y:Code}(n:WP P N y Q ρ w):RL P N ops (pK (KK P N y Q) Q') [] ρ w:=yK (zF n)
theorem WZ {y:Code}(n:WP P N y Q ρ w):WP P N .skip (pK (KK P N y Q) Q') ρ w:=yP (zF n)
theorem KN {y:Code}(n:WP P N y Q ρ w):KK P N y Q ρ w:=n
theorem jn {K:Env->World->Prop}(n:K ρ w):RL P N ops (pK K Q') [] ρ w:=yK (zF n)
theorem js {K:Env->World->Prop}(n:K ρ w):WP P N .skip (pK K Q') ρ w:=yP (zF n)
theorem eG {a b:Int}{kk:IntKind}{β:Type}{k:Bool->Option β}{r:β}(c:gI (decide (a<b)) k=some r)(n: ∀x,k x=some r->RL P N ops Q rest (upd ρ d (vb x)) w)(hx:ev ρ x= .int kk a:=by exact rfl)(hy:ev ρ y= .int kk b:=by exact rfl)(hw:fO N ops ρ ⟨some d,.binOp .lss t x y u,ty,pos,af,g⟩=true:=by exact rfl)(e:Nat.blt d N=true:=by exact rfl):RL P N ops Q (⟨some d,.binOp .lss t x y u,ty,pos,af,g⟩::rest) ρ w:=RLb c (aJt hx hy) n hw e
theorem aBm {a b:Int}{kk:IntKind}{β:Type}{k:Bool->Option β}{r:β}(c:gI (decide (a<=b)) k=some r)(n: ∀x,k x=some r->RL P N ops Q rest (upd ρ d (vb x)) w)(hx:ev ρ x= .int kk a:=by exact rfl)(hy:ev ρ y= .int kk b:=by exact rfl)(hw:fO N ops ρ ⟨some d,.binOp .leq t x y u,ty,pos,af,g⟩=true:=by exact rfl)(e:Nat.blt d N=true:=by exact rfl):RL P N ops Q (⟨some d,.binOp .leq t x y u,ty,pos,af,g⟩::rest) ρ w:=RLb c (aPm hx hy) n hw e
theorem jF {a b:Int}{kk:IntKind}{β:Type}{k:Bool->Option β}{r:β}(c:gI (decide (b<a)) k=some r)(n: ∀x,k x=some r->RL P N ops Q rest (upd ρ d (vb x)) w)(hx:ev ρ x= .int kk a:=by exact rfl)(hy:ev ρ y= .int kk b:=by exact rfl)(hw:fO N ops ρ ⟨some d,.binOp .gtr t x y u,ty,pos,af,g⟩=true:=by exact rfl)(e:Nat.blt d N=true:=by exact rfl):RL P N ops Q (⟨some d,.binOp .gtr t x y u,ty,pos,af,g⟩::rest) ρ w:=RLb c (vI hx hy) n hw e
theorem wM {a b:Int}{kk:IntKind}{β:Type}{k:Bool->Option β}{r:β}(c:gI (decide (b<=a)) k=some r)(n: ∀x,k x=some r->RL P N ops Q rest (upd ρ d (vb x)) w)(hx:ev ρ x= .int kk a:=by exact rfl)(hy:ev ρ y= .int kk b:=by exact rfl)(hw:fO N ops ρ ⟨some d,.binOp .geq t x y u,ty,pos,af,g⟩=true:=by exact rfl)(e:Nat.blt d N=true:=by exact rfl):RL P N ops Q (⟨some d,.binOp .geq t x y u,ty,pos,af,g⟩::rest) ρ w:=RLb c (aGx hx hy) n hw e
theorem fH {a b:Int}{kk:IntKind}{β:Type}{k:Bool->Option β}{r:β}(c:gI (decide (a=b)) k=some r)(n: ∀x,k x=some r->RL P N ops Q rest (upd ρ d (vb x)) w)(hx:ev ρ x= .int kk a:=by exact rfl)(hy:ev ρ y= .int kk b:=by exact rfl)(hw:fO N ops ρ ⟨some d,.binOp .eql t x y u,ty,pos,af,g⟩=true:=by exact rfl)(e:Nat.blt d N=true:=by exact rfl):RL P N ops Q (⟨some d,.binOp .eql t x y u,ty,pos,af,g⟩::rest) ρ w:=RLb c (aBp hx hy) n hw e
theorem aN {a b:Int}{kk:IntKind}{β:Type}{k:Bool->Option β}{r:β}(c:gI (decide (a≠b)) k=some r)(n: ∀x,k x=some r->RL P N ops Q rest (upd ρ d (vb x)) w)(hx:ev ρ x= .int kk a:=by exact rfl)(hy:ev ρ y= .int kk b:=by exact rfl)(hw:fO N ops ρ ⟨some d,.binOp .neq t x y u,ty,pos,af,g⟩=true:=by exact rfl)(e:Nat.blt d N=true:=by exact rfl):RL P N ops Q (⟨some d,.binOp .neq t x y u,ty,pos,af,g⟩::rest) ρ w:=RLb c (Do_neq hx hy) n hw e
theorem eF {a b:Int}{kk:IntKind}{β:Type}{k:Int->Option β}{r:β}(c:gI (kk.wrap (a+b)) k=some r)(n: ∀x,k x=some r->RL P N ops Q rest (upd ρ d (.int kk x)) w)(hx:ev ρ x= .int kk a:=by exact rfl)(hy:ev ρ y= .int kk b:=by exact rfl)(hw:fO N ops ρ ⟨some d,.binOp .add t x y u,ty,pos,af,g⟩=true:=by exact rfl)(e:Nat.blt d N=true:=by exact rfl):RL P N ops Q (⟨some d,.binOp .add t x y u,ty,pos,af,g⟩::rest) ρ w:=RLi c (uA hx hy rfl) n hw e
theorem uP {a b:Int}{kk:IntKind}{β:Type}{k:Int->Option β}{r:β}(c:gI (kk.wrap (a-b)) k=some r)(n: ∀x,k x=some r->RL P N ops Q rest (upd ρ d (.int kk x)) w)(hx:ev ρ x= .int kk a:=by exact rfl)(hy:ev ρ y= .int kk b:=by exact rfl)(hw:fO N ops ρ ⟨some d,.binOp .sub t x y u,ty,pos,af,g⟩=true:=by exact rfl)(e:Nat.blt d N=true:=by exact rfl):RL P N ops Q (⟨some d,.binOp .sub t x y u,ty,pos,af,g⟩::rest) ρ w:=RLi c (nC hx hy rfl) n hw e
theorem aRb {a b:Int}{kk:IntKind}{β:Type}{k:Int->Option β}{r:β}(c:gI (kk.wrap (a*b)) k=some r)(n: ∀x,k x=some r->RL P N ops Q rest (upd ρ d (.int kk x)) w)(hx:ev ρ x= .int kk a:=by exact rfl)(hy:ev ρ y= .int kk b:=by exact rfl)(hw:fO N ops ρ ⟨some d,.binOp .mul t x y u,ty,pos,af,g⟩=true:=by exact rfl)(e:Nat.blt d N=true:=by exact rfl):RL P N ops Q (⟨some d,.binOp .mul t x y u,ty,pos,af,g⟩::rest) ρ w:=RLi c (aZl hx hy rfl) n hw e
theorem sJ {x y:Code}{O S:List Nat}{a b:World}{T:List Th}(_:Hd O a b S T)(W:List Nat)(l:List (Nat×Value))(h:WP P N x (pK (λρ' c=>Fr W ρ ρ'/\ ∃g:Unit,Sl ρ' ((λ_=>l) g)/\(λ_ wl=>Hd O a wl S T) g c) Q) ρ w)(k: ∀(_:Unit) ρ₁ w,Hd O a w S T->WP P N y Q (over ρ ρ₁ W l) w):WP P N (.seq x y) Q ρ w:=aSl W (λ_:Unit=>l) (λ_ wl=>Hd O a wl S T) h k
theorem bE {α β:Type}{p:Prop}{x:Option α}{f:α->Option β}{r:β}(h:gB x f=some r)(k: ∀y,x=some y->f y=some r->p):p:=(yA h).elim λy q=>k y q.1 q.2
theorem lE {α β:Type}{p:Prop}{x:α}{f:α->Option β}{r:β}(h:gI x f=some r)(k: ∀y,x=y->f y=some r->p):p:=(aCs h).elim λy q=>k y q.1 q.2
theorem XQ {I:World->Prop}{κ:List MxM.Kd}{K:MxM.Mm->Env->World->Prop}{k:Nat}{M:MxM.Mm}{σ:List Nat}{v:Value}{op:Op}(h: ∀{a},Do P ⟨some d,op,ty,pos,af,g⟩ ρ a v a)(n:MxM.XL P I N ops κ K M σ rest (upd ρ d v) w)(hk:MxM.kdOf κ k= .pure:=by exact rfl)(hw:fO N ops ρ ⟨some d,op,ty,pos,af,g⟩=true:=by exact rfl)(b:Nat.blt d N=true:=by exact rfl):MxM.XL P I N ops κ K M (k::σ) (⟨some d,op,ty,pos,af,g⟩::rest) ρ w:=MxM.XL_pure hk hw b (λ_ _=>h) n
theorem aI {b:Bool}{β:Type}{k:Bool->Option β}{r:β}(a:gI (!b) k=some r)(n: ∀x,k x=some r->RL P N ops Q rest (upd ρ d (vb x)) w)(hx:ev ρ x=vb b:=by exact rfl)(hw:fO N ops ρ ⟨some d,.unOp .not t x,ty,pos,af,g⟩=true:=by exact rfl)(c:Nat.blt d N=true:=by exact rfl):RL P N ops Q (⟨some d,.unOp .not t x,ty,pos,af,g⟩::rest) ρ w:=RLb a (aGn hx) n hw c
theorem pt (v:Value){z:Operand}(n:RL P N ops Q rest (upd ρ d v) w)(hx:ev ρ x=vb true:=by exact rfl)(hy:ev ρ y=v:=by exact rfl)(hw:fO N ops ρ ⟨some d,.pick x y z,ty,pos,af,g⟩=true:=by exact rfl)(a:Nat.blt d N=true:=by exact rfl):RL P N ops Q (⟨some d,.pick x y z,ty,pos,af,g⟩::rest) ρ w:=aX hw a (kY hx hy) n
theorem pf (v:Value){z:Operand}(n:RL P N ops Q rest (upd ρ d v) w)(hx:ev ρ x=vb false:=by exact rfl)(hz:ev ρ z=v:=by exact rfl)(hw:fO N ops ρ ⟨some d,.pick x y z,ty,pos,af,g⟩=true:=by exact rfl)(a:Nat.blt d N=true:=by exact rfl):RL P N ops Q (⟨some d,.pick x y z,ty,pos,af,g⟩::rest) ρ w:=aX hw a (kC hx hz) n
theorem ix {α:Type}{L:List α}{i:Int}{z:α}{e:TypeId}{b o s c:Nat}{kk:IntKind}(hu:P.underlying t=some (.slice e))(hs:Sz P e s)(hx:ev ρ x= .slice (some ⟨b,o,none⟩) L.length c)(h:at' L i=some z)(n:RL P N ops Q rest (upd ρ d (.pointer (some ⟨b,o+i.toNat*s,none⟩))) w)(hy:ev ρ y= .int kk i:=by exact rfl)(hw:fO N ops ρ ⟨some d,.indexAddr t x y,ty,pos,af,g⟩=true:=by exact rfl)(a:Nat.blt d N=true:=by exact rfl):RL P N ops Q (⟨some d,.indexAddr t x y,ty,pos,af,g⟩::rest) ρ w:=aX hw a (yY hu hs hx hy (zV h).1 (zV h).2.1 rfl rfl) n
theorem lb {O S:List Nat}{a:World}{l:List Th}{b T n:Nat}{cs:List Value}(H:Hd O a w S l)(i:Nat)(h:l[i]? =some (.blk b cs T))(c:Agg P t)(hs:Sz P t n)(k:RL P N ops Q rest (upd ρ d (.agg cs.toArray)) w)(hx:ev ρ x= .pointer (some ⟨b,0,none⟩):=by exact rfl)(hl:cs.length=n:=by exact rfl)(hw:fO N ops ρ ⟨some d,.load t x,ty,pos,af,g⟩=true:=by exact rfl)(e:Nat.blt d N=true:=by exact rfl):RL P N ops Q (⟨some d,.load t x,ty,pos,af,g⟩::rest) ρ w:=aX hw e (yB c hx hs hl (Blk.cells (H.V h))) k
theorem WJ {β:Type}{b:Bool}{x y:Option β}{r:β}{c:Operand}{s t:Code}(a:gU b x y=some r)(ht:x=some r->WP P N s Q ρ w)(hf:y=some r->WP P N t Q ρ w)(hc:ev ρ c=vb b:=by exact rfl):WP P N (.cond c s t) Q ρ w:=WI a hc ht hf
theorem RJ {β:Type}{b:Bool}{x y:Option β}{r:β}{z:Operand}(a:gU b x y=some r)(ht:x=some r->RL P N ops Q rest (upd ρ d (vb true)) w)(hf:y=some r->RL P N ops Q rest (upd ρ d (vb false)) w)(hx:ev ρ z=vb b:=by exact rfl)(hw:fO N ops ρ ⟨some d,.move z,ty,pos,af,g⟩=true:=by exact rfl)(c:Nat.blt d N=true:=by exact rfl):RL P N ops Q (⟨some d,.move z,ty,pos,af,g⟩::rest) ρ w:=RI a hx ht hf hw c
end
abbrev Sm {O S:List Nat}{v w:World}{l:List Th}(_:Hd O v w S l)(w':World)(l':List Th):Prop:=Hd O v w' S l'
section
variable {P:Program}{N:Nat}{Q:Exit->Env->World->Prop}{ρ:Env}{w wo:World}{O S:List Nat}{T:List Th}{X Y β:Type}{r:β}{c x y:Code}
abbrev pj (J:List Nat)(t T:List Th):=Go.Lf.pick J (t++T)
theorem jo (_:Hd O wo w S T)(W:List Nat)(l:Y->List (Nat×Value))(t:Y->List Th)(J:List Nat)(h:WP P N x (pK (λρ' a=>Fr W ρ ρ'/\ ∃z:Y,Sl ρ' (l z)/\Hd O wo a S (pj J (t z) T)) Q) ρ w)(k: ∀z ρ₁ w,Hd O wo w S (pj J (t z) T)->WP P N y Q (over ρ ρ₁ W (l z)) w):WP P N (.seq x y) Q ρ w:=aSl W l (λz wl=>Hd O wo wl S (pj J (t z) T)) h k
theorem jk {b:X->Option β}{m:(X->Option β)->Option β}(a:bP b m=some r)(_:Hd O wo w S T)(W:List Nat)(l:X->Y->List (Nat×Value))(t:X->Y->List Th)(J:List Nat)(h: ∀k:X->Option β,m k=some r->WP P N x (pK (λρ' c=>Fr W ρ ρ'/\ ∃u v,Sl ρ' (l u v)/\Hd O wo c S (pj J (t u v) T)/\k u=some r) Q) ρ w)(k: ∀u v ρ₁ w,Hd O wo w S (pj J (t u v) T)->b u=some r->WP P N y Q (over ρ ρ₁ W (l u v)) w):WP P N (.seq x y) Q ρ w:=by
 refine aSl (G:=X×Y) W (λg=>l g.1 g.2) (λg wl=>Hd O wo wl S (pj J (t g.1 g.2) T)/\b g.1=some r) ((h b a).mono ?_) (λg ρ₁ w hg=>k g.1 g.2 ρ₁ w hg.1 hg.2);intro e ρ' c hq
 cases e<;>first |(obtain⟨d,u,v,f,i,j⟩:=hq;exact⟨d,(u,v),f,i,j⟩)|exact hq
theorem lo {b:(X->Option β)->X->Option β}{d:X}(a:fG b d=some r)(_:Hd O wo w S T)(W:List Nat)(l:X->Y->List (Nat×Value))(t:X->Y->List Th)(J:List Nat)(f:Y)(j:Hd O wo w S (pj J (t d f) T))(n: ∀k u v ρ₁ w,Hd O wo w S (pj J (t u v) T)->b k u=some r->WP P N c (pK (λρ' i=>Fr W ρ ρ'/\ ∃u v,Sl ρ' (l u v)/\Hd O wo i S (pj J (t u v) T)/\k u=some r) Q) (over ρ ρ₁ W (l u v)) w)(hs:Sl ρ (l d f):=by repeat (first |exact yV|refine yH rfl ?_)):WP P N (.loop c) Q ρ w:=by
 obtain⟨B,m,rfl,o⟩:=aYf a;refine WP_loopS (G:=Nat×X×Y) W (λg=>l g.2.1 g.2.2) (λg wl=>Hd O wo wl S (pj J (t g.2.1 g.2.2) T)/\dB B g.1 g.2.1=some r) (λg=>g.1) (m,d,f) hs ⟨j,o⟩ ?_;rintro⟨m,u,v⟩ ρ₁ w ⟨p,h⟩;obtain⟨m,rfl,h⟩:=loopN_pos h;refine(n (dB B m) u v ρ₁ w p h).mono ?_;intro e ρ' i hq
 cases e<;>first |(obtain⟨q,u',v',s,x,y⟩:=hq;exact⟨q,(m,u',v'),s,⟨x,y⟩,Nat.lt_succ_self _⟩)|exact hq
theorem me {W:List Nat}{ρ ρ':Env}{k:X->Option β}{l:X->Y->List (Nat×Value)}{B:X->Y->Prop}{u:X}(a:k u=some r)(y:Y)(h:B u y)(hs:Sl ρ' (l u y):=by repeat (first |exact yV|refine yH rfl ?_))(hf:Fr W ρ ρ':=by repeat' (first |with_reducible exact aFv|refine aPp rfl ?_|refine aIm rfl rfl ?_)):Fr W ρ ρ'/\ ∃u v,Sl ρ' (l u v)/\B u v/\k u=some r:=⟨hf,u,y,hs,h,a⟩
end
section
variable {P:Program}{N:Nat}{ops:Array Oper}{Q:Exit->Env->World->Prop}{rest:List Oper}{ρ:Env}{w wo:World}{d dd:Nat}{op:Op}{t e tt uu ty tyy:TypeId}{x y xx:Operand}{pos poo:String}{af aff:Array Edge}{g gg:Option (Nat×Bool)}{f:FuncId}{args:Array Operand}{at_:Array TypeId}{vs:List Value}{O S:List Nat}{l:List Th}{α β A B C D:Type}{r:β}{v:Value}
theorem xu {R:World->Prop}(h: ∃a,DoU P ⟨none,op,ty,pos,af,g⟩ ρ w a/\R a)(k: ∀a,R a->RL P N ops Q rest ρ a)(hw:fO N ops ρ ⟨none,op,ty,pos,af,g⟩=true:=by exact rfl):RL P N ops Q (⟨none,op,ty,pos,af,g⟩::rest) ρ w:=RL_exU hw h k
theorem xv {R:Value->World->Prop}(h: ∃v a,Do P ⟨some d,op,ty,pos,af,g⟩ ρ w v a/\R v a)(k: ∀v a,R v a->RL P N ops Q rest (upd ρ d v) a)(hw:fO N ops ρ ⟨some d,op,ty,pos,af,g⟩=true:=by exact rfl)(hd:Nat.blt d N=true:=by exact rfl):RL P N ops Q (⟨some d,op,ty,pos,af,g⟩::rest) ρ w:=aDk hw hd h k
theorem xb {R:Nat->World->Prop}(h: ∃v a,Do P ⟨some d,op,ty,pos,af,g⟩ ρ w v a/\ ∃b,v= .pointer (some ⟨b,0,none⟩)/\R b a)(k: ∀b a,R b a->RL P N ops Q rest (upd ρ d (.pointer (some ⟨b,0,none⟩))) a)(hw:fO N ops ρ ⟨some d,op,ty,pos,af,g⟩=true:=by exact rfl)(hd:Nat.blt d N=true:=by exact rfl):RL P N ops Q (⟨some d,op,ty,pos,af,g⟩::rest) ρ w:=aDk hw hd h λ_ _ ⟨b,e,q⟩=>e▸k b _ q
theorem ln {L:List α}{rr:Rp α}{F:Nat->Prop}{k:Int->Option β}{b:World}(f:gI (L.length:Int) k=some r)(h:SlF rr F b v L)(hu:P.underlying t=some (.slice e))(n: ∀x,k x=some r->RL P N ops Q rest (upd ρ d (.int .i64 x)) w)(hx:ev ρ x=v:=by exact rfl)(hw:fO N ops ρ ⟨some d,.call {callee:= .builtin .len,args:= #[x],argTypes:= #[t]},ty,pos,af,g⟩=true:=by exact rfl)(i:Nat.blt d N=true:=by exact rfl):RL P N ops Q (⟨some d,.call {callee:= .builtin .len,args:= #[x],argTypes:= #[t]},ty,pos,af,g⟩::rest) ρ w:=by
 obtain⟨a,c,q⟩:=SlF.len h;exact aX hw i (bW hu (hx.trans q)) (n _ f)
theorem lr {L:List α}{R:Go.Lf.Rt α}{D:Hol}{bs:List Nat}{F:Nat->Prop}{k:Int->Option β}{b:World}(f:gI (L.length:Int) k=some r)(h:(Rt.row R uu D).rd F b [v] bs L)(hu:P.underlying t=some (.slice e))(n: ∀x,k x=some r->RL P N ops Q rest (upd ρ d (.int .i64 x)) w)(hx:ev ρ x=v:=by exact rfl)(hw:fO N ops ρ ⟨some d,.call {callee:= .builtin .len,args:= #[x],argTypes:= #[t]},ty,pos,af,g⟩=true:=by exact rfl)(i:Nat.blt d N=true:=by exact rfl):RL P N ops Q (⟨some d,.call {callee:= .builtin .len,args:= #[x],argTypes:= #[t]},ty,pos,af,g⟩::rest) ρ w:=by
 obtain⟨a,c,q⟩:=mW h;exact aX hw i (bW hu (hx.trans q)) (n _ f)
theorem rea {L:List α}{a:α}{rr:Rp α}{j:Int}{kk:IntKind}(H:Hd O wo w S l)(k:SlF rr (frees O l) w v L)(z:Value)(h:at' L j=some a)(hu:P.underlying t=some (.slice e))(hs:Sz P e 1)(p:dP P tt)(n: ∀b o,Hd O wo w S (l++[.fz (.at b (o+j.toNat*1) [z])])->RL P N ops Q rest (upd (upd ρ d (.pointer (some ⟨b,o+j.toNat*1,none⟩))) dd z) w)(hc: ∀F w cs,rr.rd F w cs a->cs=[z]:=by exact λ_ _ _ h=>h)(r:rr.sz=1:=by exact rfl)(hx:ev ρ x=v:=by exact rfl)(hy:ev ρ y= .int kk j:=by exact rfl)(s: ∀q,ev (upd ρ d q) xx=q:=by exact λ_=>rfl)(hw:fO N ops ρ ⟨some d,.indexAddr t x y,ty,pos,af,g⟩=true:=by exact rfl)(hd:Nat.blt d N=true:=by exact rfl)(hv: ∀q,fO N ops (upd ρ d q) ⟨some dd,.load tt xx,tyy,poo,aff,gg⟩=true:=by exact λ_=>rfl)(u:Nat.blt dd N=true:=by exact rfl):RL P N ops Q (⟨some d,.indexAddr t x y,ty,pos,af,g⟩::⟨some dd,.load tt xx,tyy,poo,aff,gg⟩::rest) ρ w:=by
 obtain⟨b,o,c,cs,q,A,B,C,f⟩:=xB k h;obtain rfl:=hc _ _ _ A;rw [r]at f;refine aX hw hd (yY hu hs (hx.trans q) hy (zV h).1 (zV h).2.1 rfl rfl) (aX (hv _) u (yC p (s _) (Cells.get f (i:=0) rfl)) ?_);exact n b o (H.fz (.at b (o+j.toNat*1) [z]) ⟨B,C,f⟩)
theorem cAz {V:Value}{R:World->Prop}(he:Go.OB.Enters P f)(hc:Calls P f vs.toArray w λe a=>e= .returned V/\R a)(n: ∀a,R a->RL P N ops Q rest (upd ρ d V) a)(ha:args.toList.map (ev ρ)=vs:=by exact rfl)(hw:fO N ops ρ ⟨some d,.call {callee:= .value (.func f),args:=args,argTypes:=at_},ty,pos,af,g⟩=true:=by exact rfl)(b:Nat.blt d N=true:=by exact rfl):RL P N ops Q (⟨some d,.call {callee:= .value (.func f),args:=args,argTypes:=at_},ty,pos,af,g⟩::rest) ρ w:=xG hw b (yD he ha) hc λ_ _ ⟨e,q⟩=>⟨_,e,n _ q⟩
theorem cAa {V:A->Value}{R:A->World->Prop}(he:Go.OB.Enters P f)(hc:Calls P f vs.toArray w λe b=> ∃a,e= .returned (V a)/\R a b)(n: ∀a b,R a b->RL P N ops Q rest (upd ρ d (V a)) b)(ha:args.toList.map (ev ρ)=vs:=by exact rfl)(hw:fO N ops ρ ⟨some d,.call {callee:= .value (.func f),args:=args,argTypes:=at_},ty,pos,af,g⟩=true:=by exact rfl)(c:Nat.blt d N=true:=by exact rfl):RL P N ops Q (⟨some d,.call {callee:= .value (.func f),args:=args,argTypes:=at_},ty,pos,af,g⟩::rest) ρ w:=xG hw c (yD he ha) hc λ_ _ ⟨a,e,q⟩=>⟨_,e,n a _ q⟩
theorem cAb {V:A->B->Value}{R:A->B->World->Prop}(he:Go.OB.Enters P f)(hc:Calls P f vs.toArray w λe c=> ∃a b,e= .returned (V a b)/\R a b c)(n: ∀a b c,R a b c->RL P N ops Q rest (upd ρ d (V a b)) c)(ha:args.toList.map (ev ρ)=vs:=by exact rfl)(hw:fO N ops ρ ⟨some d,.call {callee:= .value (.func f),args:=args,argTypes:=at_},ty,pos,af,g⟩=true:=by exact rfl)(h:Nat.blt d N=true:=by exact rfl):RL P N ops Q (⟨some d,.call {callee:= .value (.func f),args:=args,argTypes:=at_},ty,pos,af,g⟩::rest) ρ w:=xG hw h (yD he ha) hc λ_ _ ⟨a,b,e,q⟩=>⟨_,e,n a b _ q⟩
theorem cAc {V:A->B->C->Value}{R:A->B->C->World->Prop}(he:Go.OB.Enters P f)(hc:Calls P f vs.toArray w λe h=> ∃a b c,e= .returned (V a b c)/\R a b c h)(n: ∀a b c h,R a b c h->RL P N ops Q rest (upd ρ d (V a b c)) h)(ha:args.toList.map (ev ρ)=vs:=by exact rfl)(hw:fO N ops ρ ⟨some d,.call {callee:= .value (.func f),args:=args,argTypes:=at_},ty,pos,af,g⟩=true:=by exact rfl)(i:Nat.blt d N=true:=by exact rfl):RL P N ops Q (⟨some d,.call {callee:= .value (.func f),args:=args,argTypes:=at_},ty,pos,af,g⟩::rest) ρ w:=xG hw i (yD he ha) hc λ_ _ ⟨a,b,c,e,q⟩=>⟨_,e,n a b c _ q⟩
theorem cAd {V:A->B->C->D->Value}{R:A->B->C->D->World->Prop}(he:Go.OB.Enters P f)(hc:Calls P f vs.toArray w λe h=> ∃a b c z,e= .returned (V a b c z)/\R a b c z h)(n: ∀a b c z h,R a b c z h->RL P N ops Q rest (upd ρ d (V a b c z)) h)(ha:args.toList.map (ev ρ)=vs:=by exact rfl)(hw:fO N ops ρ ⟨some d,.call {callee:= .value (.func f),args:=args,argTypes:=at_},ty,pos,af,g⟩=true:=by exact rfl)(i:Nat.blt d N=true:=by exact rfl):RL P N ops Q (⟨some d,.call {callee:= .value (.func f),args:=args,argTypes:=at_},ty,pos,af,g⟩::rest) ρ w:=xG hw i (yD he ha) hc λ_ _ ⟨a,b,c,z,e,q⟩=>⟨_,e,n a b c z _ q⟩
abbrev KOne (rr:Rp α)(f:α->Value):Prop:=(∀F w c x,rr.rd F w c x↔c=[f x])/\rr.sz=1/\ ∀x,(f x).cells= #[f x]
theorem kStr:KOne Rp.str (λs=> .string (bs s)):=⟨λ_ _ _ _=>Iff.rfl,rfl,λ_=>rfl⟩
theorem kInt:KOne (Rp.int .i64) (.int .i64):=⟨λ_ _ _ _=>Iff.rfl,rfl,λ_=>rfl⟩
theorem kByt:KOne (Rp.int .u8) (.int .u8):=⟨λ_ _ _ _=>Iff.rfl,rfl,λ_=>rfl⟩
theorem kBoo:KOne Rp.bool .bool:=⟨λ_ _ _ _=>Iff.rfl,rfl,λ_=>rfl⟩
theorem ll {rr:Rp α}{f:α->Value}(k:KOne rr f){len bytes:Nat}{zs:List Value}{parts:Array (Nat×Operand)}(xl:List α)(hu:P.underlying t=some (.slice e))(he:El P e rr.sz bytes zs)(H:Hd O wo w S l)(hn:xl.length=len:=by exact rfl)(hp:Nat.blt 0 len=true:=by exact rfl)(hs:Nat.ble len 16777216=true:=by exact rfl)(hi:parts.toList.map Prod.fst=List.range len:=by exact rfl)(hv:parts.toList.map (λp=>ev ρ p.2)=xl.map f:=by exact rfl): ∃v b,Do P ⟨some d,.buildSlice t len parts,ty,pos,af,g⟩ ρ w v b/\fM w b/\Hd O wo b S (l++[.own rr v e xl]):=by
 obtain⟨hl,a,hc⟩:=k;have j: ∀xl:List α,aVo 1 (xl.map f):=λxl=>by
  induction xl with
  |nil=>exact True.intro
  |cons x xl ih=>exact⟨by rw [hc];rfl,ih⟩
 have n: ∀xl:List α,rows rr (frees O l) w (xl.map f) xl:=λxl=>by
  induction xl with
  |nil=>rfl
  |cons x xl ih=>exact⟨[f x],_,rfl,(hl _ _ _ _).2 rfl,ih⟩
 have o:(xl.map f).flatMap (λv=>v.cells.toList)=xl.map f:=by
  clear hn hv
  induction xl with
  |nil=>rfl
  |cons x xl ih=>rw [List.map_cons,List.flatMap_cons,ih,hc];rfl
 have c:len*rr.sz<=16777216:=by rw [a,Nat.mul_one];exact Nat.le_of_ble_eq_true hs
 have h:0<len*rr.sz:=by rw [a,Nat.mul_one];exact Nat.le_of_ble_eq_true hp
 have i:uM rr.sz len zs (parts.toList.map λp=>(p.1,ev ρ p.2))=some (xl.map f):=xN (by rw [a];decide) hi hv (by rw [a];exact j xl) o;exact jK (Lx_bs hu he c h hn i H (n xl)) (uJ hu he c h i)
theorem snd3 {R Y Z:Value->World->Prop}(h: ∃v c,R v c/\Y v c/\Z v c): ∃v c,R v c/\Z v c:=let ⟨v,c,a,_,b⟩:=h;⟨v,c,a,b⟩
theorem kl {rr:Rp α}{f:α->Value}(k:KOne rr f){len bytes:Nat}{zs:List Value}{parts:Array (Nat×Operand)}(xl:List α)(hu:P.underlying t=some (.slice e))(he:El P e rr.sz bytes zs)(H:Hd O wo w S l)(hn:xl.length=len:=by exact rfl)(hp:Nat.blt 0 len=true:=by exact rfl)(hs:Nat.ble len 16777216=true:=by exact rfl)(hi:parts.toList.map Prod.fst=List.range len:=by exact rfl)(hv:parts.toList.map (λp=>ev ρ p.2)=xl.map f:=by exact rfl): ∃v a,Do P ⟨some d,.buildSlice t len parts,ty,pos,af,g⟩ ρ w v a/\Hd O wo a S (l++[.own rr v e xl]):=snd3 (ll k xl hu he H hn hp hs hi hv)
theorem lOne (rr:Rp α)(x:α)(cs:List Value){bytes:Nat}{zs:List Value}{q:Operand}(hu:P.underlying t=some (.slice e))(he:El P e rr.sz bytes zs)(hr:rr.rd (frees O l) w cs x)(H:Hd O wo w S l)(a:cs.length=rr.sz:=by exact rfl)(c:Nat.blt 0 cs.length=true:=by exact rfl)(j:Nat.ble cs.length 16777216=true:=by exact rfl)(hv:ev ρ q= .agg cs.toArray:=by exact rfl): ∃v b,Do P ⟨some d,.buildSlice t 1 #[(0,q)],ty,pos,af,g⟩ ρ w v b/\fM w b/\Hd O wo b S (l++[.own rr v e [x]]):=by
 have f:1*rr.sz<=16777216:=by rw [<-a,Nat.one_mul];exact Nat.le_of_ble_eq_true j
 have h:0<1*rr.sz:=by rw [<-a,Nat.one_mul];exact Nat.le_of_ble_eq_true c
 have i:uM rr.sz 1 zs ((#[(0,q)]:Array (Nat×Operand)).toList.map λp=>(p.1,ev ρ p.2))=some cs:=xN (vs:=[.agg cs.toArray]) (by rw [<-a];exact Nat.le_of_ble_eq_true c) rfl (by simp [hv]) ⟨by rw [<-a];simp [Value.cells],T1⟩ (by simp [Value.cells]);exact jK (Lx_bs hu he f h rfl i H ⟨cs,[],by simp,hr,rfl⟩) (uJ hu he f h i)
theorem bOne (rr:Rp α)(x:α)(cs:List Value){bytes:Nat}{zs:List Value}{q:Operand}(hu:P.underlying t=some (.slice e))(he:El P e rr.sz bytes zs)(hr:rr.rd (frees O l) w cs x)(H:Hd O wo w S l)(b:cs.length=rr.sz:=by exact rfl)(c:Nat.blt 0 cs.length=true:=by exact rfl)(f:Nat.ble cs.length 16777216=true:=by exact rfl)(hv:ev ρ q= .agg cs.toArray:=by exact rfl): ∃v a,Do P ⟨some d,.buildSlice t 1 #[(0,q)],ty,pos,af,g⟩ ρ w v a/\Hd O wo a S (l++[.own rr v e [x]]):=snd3 (lOne rr x cs hu he hr H b c f hv)
theorem Xu {κ:List MxM.Kd}{K:MxM.Mm->Env->World->Prop}{k:Nat}{M:MxM.Mm}{σ Si:List Nat}{vo:World}{R:World->World->Prop}(h: ∀b,fM w b-> ∃a,DoU P ⟨none,op,ty,pos,af,g⟩ ρ b a/\R b a)(n: ∀b a,fM w b->R b a->MxM.XL P (λa=>Only Si vo a) N ops κ K none σ rest ρ a)(ho: ∀b a,R b a->Only Si vo a:=by exact λ_ _ h=>h.only)(hk:MxM.kdOf κ k= .eff:=by exact rfl)(hw:fO N ops ρ ⟨none,op,ty,pos,af,g⟩=true:=by exact rfl):MxM.XL P (λa=>Only Si vo a) N ops κ K M (k::σ) (⟨none,op,ty,pos,af,g⟩::rest) ρ w:=MxM.XL_exU oS hk hw h λ_ _ s q=>⟨ho _ _ q,n _ _ s q⟩
theorem Xe {κ:List MxM.Kd}{K:MxM.Mm->Env->World->Prop}{k:Nat}{M:MxM.Mm}{σ Si:List Nat}{vo:World}{R:World->Value->World->Prop}(h: ∀b,fM w b-> ∃v a,Do P ⟨some d,op,ty,pos,af,g⟩ ρ b v a/\R b v a)(n: ∀b v a,fM w b->R b v a->MxM.XL P (λa=>Only Si vo a) N ops κ K none σ rest (upd ρ d v) a)(ho: ∀b v a,R b v a->Only Si vo a:=by exact λ_ _ _ h=>h.only)(hk:MxM.kdOf κ k= .eff:=by exact rfl)(hw:fO N ops ρ ⟨some d,op,ty,pos,af,g⟩=true:=by exact rfl)(hd:Nat.blt d N=true:=by exact rfl):MxM.XL P (λa=>Only Si vo a) N ops κ K M (k::σ) (⟨some d,op,ty,pos,af,g⟩::rest) ρ w:=MxM.XL_ex oS hk hw hd h λ_ _ _ s q=>⟨ho _ _ _ q,n _ _ _ s q⟩
theorem Xf {κ:List MxM.Kd}{K:MxM.Mm->Env->World->Prop}{k:Nat}{M:MxM.Mm}{σ Si:List Nat}{vo:World}{R:World->Value->World->α->Prop}(h: ∀c,fM w c-> ∃v b,Do P ⟨some d,op,ty,pos,af,g⟩ ρ c v b/\ ∃a,R c v b a)(n: ∀c v b,fM w c-> ∀a,R c v b a->MxM.XL P (λb=>Only Si vo b) N ops κ K none σ rest (upd ρ d v) b)(ho: ∀c v b a,R c v b a->Only Si vo b:=by exact λ_ _ _ _ h=>h.only)(hk:MxM.kdOf κ k= .eff:=by exact rfl)(hw:fO N ops ρ ⟨some d,op,ty,pos,af,g⟩=true:=by exact rfl)(hd:Nat.blt d N=true:=by exact rfl):MxM.XL P (λb=>Only Si vo b) N ops κ K M (k::σ) (⟨some d,op,ty,pos,af,g⟩::rest) ρ w:=MxM.XL_ex oS hk hw hd h λ_ _ _ s ⟨_,q⟩=>⟨ho _ _ _ _ q,n _ _ _ s _ q⟩
end
abbrev Cl (f:Nat)(a:List Value)(w:World)(R:Ending->World->Prop):Prop:=Calls Tryz.prog f a.toArray w R
abbrev Rt (f:Nat)(a:List Value)(v:Value)(w:World)(O S:List Nat)(L:List Th):Prop:=Cl f a w λe h=>e= .returned v/\Hd O w h S L
abbrev i6 (n:Int):Value:= .int .i64 n
abbrev sb (s:Str):Value:= .string (bs s)
abbrev f1 {α:Type}(r:Rp α)(v:Value)(l:List α):Th:= .fz (.sl r v l)
theorem Hbc {O S:List Nat}{a w:World}{l:List Th}{b:Nat}{T:TypeId}{cs:List Value}(H:Hd O a w S l)(i:Nat)(h:l[i]? =some (.blk b cs T)):Cells w ⟨b,0,none⟩ cs:=Blk.cells (H.V h)
theorem Hbg {O S:List Nat}{a w:World}{l:List Th}{b:Nat}{T:TypeId}{cs:List Value}{v:Value}(H:Hd O a w S l)(i j:Nat)(h:l[i]? =some (.blk b cs T))(c:cs[j]? =some v):w.cell? ⟨b,0+j,none⟩=some v:=Cells.get (Blk.cells (H.V h)) c
theorem XP {P:Program}{I:World->Prop}{N:Nat}{ops:Array Oper}{κ:List MxM.Kd}{K:MxM.Mm->Env->World->Prop}{k:Nat}{M:MxM.Mm}{σ:List Nat}{rest:List Oper}{ρ:Env}{w:World}{d:Nat}{ty:TypeId}{pos:String}{af:Array Edge}{g:Option (Nat×Bool)}{v:Value}{op:Op}(h: ∀a,I a->Do P ⟨some d,op,ty,pos,af,g⟩ ρ a v a)(n:MxM.XL P I N ops κ K M σ rest (upd ρ d v) w)(hk:MxM.kdOf κ k= .pure:=by exact rfl)(hw:fO N ops ρ ⟨some d,op,ty,pos,af,g⟩=true:=by exact rfl)(hd:Nat.blt d N=true:=by exact rfl):MxM.XL P I N ops κ K M (k::σ) (⟨some d,op,ty,pos,af,g⟩::rest) ρ w:=MxM.XL_pure hk hw hd h n
theorem XO {P:Program}{I:World->Prop}{N:Nat}{ops:Array Oper}{κ:List MxM.Kd}{K:MxM.Mm->Env->World->Prop}{k:Nat}{M:MxM.Mm}{σ:List Nat}{rest:List Oper}{ρ:Env}{w:World}{d:Nat}{ty:TypeId}{pos:String}{af:Array Edge}{g:Option (Nat×Bool)}{op:Op}(n:MxM.XL P I N ops κ K M σ rest (upd ρ d undef) w)(hk:MxM.kdOf κ k= .pure:=by exact rfl)(hw:fO N ops ρ ⟨some d,op,ty,pos,af,g⟩=false:=by exact rfl)(hd:Nat.blt d N=true:=by exact rfl):MxM.XL P I N ops κ K M (k::σ) (⟨some d,op,ty,pos,af,g⟩::rest) ρ w:=MxM.XL_offp hk hw hd n
theorem XM {P:Program}{I:World->Prop}{N:Nat}{ops:Array Oper}{κ:List MxM.Kd}{K:MxM.Mm->Env->World->Prop}{k:Nat}{M:MxM.Mm}{σ:List Nat}{rest:List Oper}{ρ:Env}{w:World}{d:Nat}{ty:TypeId}{pos:String}{af:Array Edge}{g:Option (Nat×Bool)}{x:Operand}(v:Value)(n:MxM.XL P I N ops κ K M σ rest (upd ρ d v) w)(hx:ev ρ x=v:=by exact rfl)(hk:MxM.kdOf κ k= .pure:=by exact rfl)(hw:fO N ops ρ ⟨some d,.move x,ty,pos,af,g⟩=true:=by exact rfl)(hd:Nat.blt d N=true:=by exact rfl):MxM.XL P I N ops κ K M (k::σ) (⟨some d,.move x,ty,pos,af,g⟩::rest) ρ w:=MxM.XL_pure hk hw hd (λ_ _=>mV hx) n
theorem XR {P:Program}{c:World}{e:List Nat}{N:Nat}{ops:Array Oper}{κ:List MxM.Kd}{K:MxM.Mm->Env->World->Prop}{k:Nat}{M:MxM.Mm}{σ:List Nat}{rest:List Oper}{ρ:Env}{w:World}{d:Nat}{ty:TypeId}{pos:String}{af:Array Edge}{g:Option (Nat×Bool)}{t:TypeId}{x:Operand}{O S:List Nat}{f:World}{l:List Th}{b:Nat}{T:TypeId}{cs:List Value}{v:Value}(o:dP P t)(H:Hd O f w S l)(i j:Nat)(h:l[i]? =some (.blk b cs T))(p:cs[j]? =some v)(n:MxM.XL P (λa=>Only e c a) N ops κ K M σ rest (upd ρ d v) w)(hx:ev ρ x= .pointer (some ⟨b,0+j,none⟩):=by exact rfl)(hk:MxM.kdOf κ k= .read:=by exact rfl)(hw:fO N ops ρ ⟨some d,.load t x,ty,pos,af,g⟩=true:=by exact rfl)(hd:Nat.blt d N=true:=by exact rfl):MxM.XL P (λa=>Only e c a) N ops κ K M (k::σ) (⟨some d,.load t x,ty,pos,af,g⟩::rest) ρ w:=MxM.yZ oS hk hw hd (λ_ q=>yC o hx (Hbg (H.Z q) i j h p)) n
theorem Ld {P:Program}{N:Nat}{ops:Array Oper}{Q:Exit->Env->World->Prop}{rest:List Oper}{ρ:Env}{w:World}{d:Nat}{t ty:TypeId}{x:Operand}{pos:String}{af:Array Edge}{g:Option (Nat×Bool)}{O S:List Nat}{a:World}{l:List Th}{b:Nat}{T:TypeId}{cs:List Value}{v:Value}(o:dP P t)(H:Hd O a w S l)(i j:Nat)(h:l[i]? =some (.blk b cs T))(c:cs[j]? =some v)(k:RL P N ops Q rest (upd ρ d v) w)(hx:ev ρ x= .pointer (some ⟨b,0+j,none⟩):=by exact rfl)(hw:fO N ops ρ ⟨some d,.load t x,ty,pos,af,g⟩=true:=by exact rfl)(hd:Nat.blt d N=true:=by exact rfl):RL P N ops Q (⟨some d,.load t x,ty,pos,af,g⟩::rest) ρ w:=zS (yC o hx (Hbg H i j h c)) k hw hd
theorem fJ {f:FuncId}{fn:Func}(h:Tryz.prog.funcs[f]? =some fn)(a:fn.body.isSome=true:=by exact rfl)(b:(fn.name== "runtime.NumGoroutine")=false:=by kernel_rfl):Go.OB.Enters Tryz.prog f:=⟨_,h,a,b⟩
theorem u2:Tryz.prog.underlying 2=some (.int .i64):=Tryz.underlying2
theorem u3:Tryz.prog.underlying 3=some (.int .i64):=Tryz.underlying3
theorem u5:Tryz.prog.underlying 5=some (.int .u8):=Tryz.underlying5
theorem u9:Tryz.prog.underlying 9=some .string:=Tryz.underlying9
theorem u22:Tryz.prog.underlying 22=some (.slice 9):=Tryz.underlying22
theorem u23:Tryz.prog.underlying 23=some (.slice 106):=Tryz.underlying23
theorem u24:Tryz.prog.underlying 24=some (.slice 110):=Tryz.underlying24
theorem u27:Tryz.prog.underlying 27=some (.slice 119):=Tryz.underlying27
theorem u29:Tryz.prog.underlying 29=some (.slice 5):=Tryz.underlying29
theorem u32:Tryz.prog.underlying 32=some (.slice 22):=Tryz.underlying32
theorem u40:Tryz.prog.underlying 40=some (.slice 58):=Tryz.underlying40
theorem u46:Tryz.prog.underlying 46=some (.slice 3):=Tryz.underlying46
theorem u54:Tryz.prog.underlying 54=some (.slice 46):=Tryz.underlying54
theorem u69:Tryz.prog.underlying 69=some (.slice 146):=Tryz.underlying69
theorem u76:Tryz.prog.underlying 76=some (.slice 4):=Tryz.underlying76
theorem u77:Tryz.prog.underlying 77=some (.slice 88):=Tryz.underlying77
theorem u82:Tryz.prog.underlying 82=some (.slice 84):=Tryz.underlying82
theorem u85:Tryz.prog.underlying 85=some (.slice 243):=Tryz.underlying85
theorem u86:Tryz.prog.underlying 86=some (.slice 269):=Tryz.underlying86
theorem aBg:Tryz.prog.underlying 115=some (.slice 142):=Tryz.underlying115
theorem aYz:Tryz.prog.underlying 122=some (.map 9 3):=Tryz.underlying122
theorem aZp:Tryz.prog.underlying 126=some (.slice 135):=Tryz.underlying126
theorem u127:Tryz.prog.underlying 127=some (.slice 132):=Tryz.underlying127
theorem aRk:Tryz.prog.underlying 151=some (.int .u64):=Tryz.underlying151
theorem u162:Tryz.prog.underlying 162=some (.array 7 9):=Tryz.underlying162
theorem aVm:Tryz.prog.underlying 191=some (.array 3 3):=Tryz.underlying191
theorem u231:Tryz.prog.underlying 231=some (.int .u64):=Tryz.underlying231
theorem u243:Tryz.prog.underlying 243=some (.int .i8):=Tryz.underlying243
theorem fo91_2:aGg Tryz.prog 91 2=some (2,3):=by kernel_rfl
theorem fo91_3:aGg Tryz.prog 91 3=some (3,9):=by kernel_rfl
theorem ui102:Tryz.prog.underlying 102=some (.interface (Tryz.prog.methodsAt 102)):=by kernel_rfl
abbrev szZ (a b:Nat):Prop:=Sz Tryz.prog a b
theorem szO {a b:Nat}(h:Sz Tryz.prog a b:=by unfold Sz;kernel_rfl):szZ a b:=h
theorem sz3:szZ 3 1:=szO
theorem sz4:szZ 4 1:=szO
theorem sz9:szZ 9 1:=szO
theorem sz22:szZ 22 1:=szO
theorem sz24:szZ 24 1:=szO
theorem jX:szZ 26 3:=szO
theorem sz29:szZ 29 1:=szO
theorem sz32:szZ 32 1:=szO
theorem wR:szZ 46 1:=szO
theorem sz54:szZ 54 1:=szO
theorem aMj:szZ 58 5:=szO
theorem sz69:szZ 69 1:=szO
theorem sz76:szZ 76 1:=szO
theorem sz77:szZ 77 1:=szO
theorem eX:szZ 84 7:=szO
theorem sz85:szZ 85 1:=szO
theorem sz86:szZ 86 1:=szO
theorem aPn:szZ 88 18:=szO
theorem sz91:szZ 91 4:=szO
theorem sz95:szZ 95 2:=szO
theorem rQ:szZ 106 9:=szO
theorem mY:szZ 110 8:=szO
theorem aHu:szZ 117 2:=szO
theorem mQ:szZ 119 4:=szO
theorem sz126:szZ 126 1:=szO
theorem sz127:szZ 127 1:=szO
theorem aEy:szZ 132 1:=szO
theorem aOv:szZ 135 3:=szO
theorem aQ:szZ 142 3:=szO
theorem nG:szZ 146 2:=szO
theorem sz155:szZ 155 1:=szO
theorem sz191:szZ 191 3:=szO
theorem aHq:szZ 243 1:=szO
theorem aId:szZ 269 2:=szO
theorem nH:szZ 273 7:=szO
abbrev oneZ (a:Nat):Prop:=dP Tryz.prog a
theorem oneO {a:Nat}(h:dP Tryz.prog a:=by unfold dP;kernel_rfl):oneZ a:=h
theorem fC:oneZ 3:=oneO
theorem pJ:oneZ 4:=oneO
theorem dD:oneZ 9:=oneO
theorem aY:oneZ 22:=oneO
theorem wG:oneZ 23:=oneO
theorem nI:oneZ 24:=oneO
theorem aKf:oneZ 29:=oneO
theorem one32:oneZ 32:=oneO
theorem one33:oneZ 33:=oneO
theorem aB:oneZ 46:=oneO
theorem one54:oneZ 54:=oneO
theorem aOh:oneZ 69:=oneO
theorem aBv:oneZ 76:=oneO
theorem aCj:oneZ 77:=oneO
theorem jY:oneZ 82:=oneO
theorem aKz:oneZ 85:=oneO
theorem tX:oneZ 86:=oneO
theorem aBk:oneZ 89:=oneO
theorem qJ:oneZ 115:=oneO
theorem aEf:oneZ 122:=oneO
theorem aYt:oneZ 126:=oneO
theorem aWy:oneZ 127:=oneO
theorem qC:oneZ 132:=oneO
theorem one155:oneZ 155:=oneO
theorem one243:oneZ 243:=oneO
abbrev aggZ (a:Nat):Prop:=Agg Tryz.prog a
theorem aggO {a:Nat}(h:Agg Tryz.prog a:=by unfold Agg;kernel_rfl):aggZ a:=h
theorem aP:aggZ 26:=aggO
theorem agg58:aggZ 58:=aggO
theorem eY:aggZ 84:=aggO
theorem agg88:aggZ 88:=aggO
theorem agg91:aggZ 91:=aggO
theorem aGz:aggZ 106:=aggO
theorem aHa:aggZ 110:=aggO
theorem aCf:aggZ 117:=aggO
theorem aLy:aggZ 119:=aggO
theorem agg135:aggZ 135:=aggO
theorem rF:aggZ 142:=aggO
theorem aEc:aggZ 146:=aggO
theorem agg191:aggZ 191:=aggO
theorem vN:aggZ 273:=aggO
theorem zero3:Go.OB.Zero Tryz.prog 3 ([i6 0]):=by unfold Go.OB.Zero;kernel_rfl
theorem zero9:Go.OB.Zero Tryz.prog 9 ([.string (bs [])]):=by unfold Go.OB.Zero;kernel_rfl
theorem zero22:Go.OB.Zero Tryz.prog 22 ([.slice none 0 0]):=by unfold Go.OB.Zero;kernel_rfl
theorem zero26:Go.OB.Zero Tryz.prog 26 ([.slice none 0 0,.slice none 0 0,.slice none 0 0]):=by unfold Go.OB.Zero;kernel_rfl
theorem zero32:Go.OB.Zero Tryz.prog 32 ([.slice none 0 0]):=by unfold Go.OB.Zero;kernel_rfl
theorem zero54:Go.OB.Zero Tryz.prog 54 ([.slice none 0 0]):=by unfold Go.OB.Zero;kernel_rfl
theorem zero58:Go.OB.Zero Tryz.prog 58 ([i6 0,i6 0,i6 0,vb false,vb false]):=by unfold Go.OB.Zero;kernel_rfl
theorem nO:Go.OB.Zero Tryz.prog 84 ([i6 0,.string (bs []),.string (bs []),i6 0,i6 0,i6 0,.slice none 0 0]):=by unfold Go.OB.Zero;kernel_rfl
theorem zero88:Go.OB.Zero Tryz.prog 88 ([i6 0,.string (bs []),.string (bs []),i6 0,i6 0,i6 0,.slice none 0 0,.slice none 0 0,i6 0,i6 0,i6 0,.slice none 0 0,i6 0,i6 0,i6 0,i6 0,.slice none 0 0,.slice none 0 0]):=by unfold Go.OB.Zero;kernel_rfl
theorem zero91:Go.OB.Zero Tryz.prog 91 ([i6 0,i6 0,i6 0,.string (bs [])]):=by unfold Go.OB.Zero;kernel_rfl
theorem zero95:Go.OB.Zero Tryz.prog 95 ([i6 0,i6 0]):=by unfold Go.OB.Zero;kernel_rfl
theorem zero100:Go.OB.Zero Tryz.prog 100 ([.pointer none,.slice none 0 0]):=by unfold Go.OB.Zero;kernel_rfl
theorem aFw:Go.OB.Zero Tryz.prog 106 ([.string (bs []),.string (bs []),i6 0,.string (bs []),.string (bs []),i6 0,i6 0,i6 0,.slice none 0 0]):=by unfold Go.OB.Zero;kernel_rfl
theorem aGc:Go.OB.Zero Tryz.prog 110 ([.string (bs []),i6 0,.string (bs []),.string (bs []),i6 0,i6 0,i6 0,.slice none 0 0]):=by unfold Go.OB.Zero;kernel_rfl
theorem aQd:Go.OB.Zero Tryz.prog 119 ([.string (bs []),i6 0,.slice none 0 0,i6 0]):=by unfold Go.OB.Zero;kernel_rfl
theorem bCg:Go.OB.Zero Tryz.prog 135 ([i6 0,i6 0,.nilIface]):=by unfold Go.OB.Zero;kernel_rfl
theorem vZ:Go.OB.Zero Tryz.prog 142 ([i6 0,i6 0,i6 0]):=by unfold Go.OB.Zero;kernel_rfl
theorem sV:Go.OB.Zero Tryz.prog 146 ([i6 0,vb false]):=by unfold Go.OB.Zero;kernel_rfl
theorem zero155:Go.OB.Zero Tryz.prog 155 ([.nilFunc]):=by unfold Go.OB.Zero;kernel_rfl
theorem zero191:Go.OB.Zero Tryz.prog 191 ((Fl.arr 3 (Fl.int .i64)).f (Arr.rep 3 0:Arr 3 Int)):=by unfold Go.OB.Zero;kernel_rfl
theorem bCb:Go.OB.Zero Tryz.prog 273 ([vb false,vb false,vb false,vb false,vb false,i6 0,i6 0]):=by unfold Go.OB.Zero;kernel_rfl
theorem el3:El Tryz.prog 3 1 8 ([i6 0]):=⟨by kernel_rfl,by kernel_rfl,by kernel_rfl,by decide,by decide⟩
theorem el4:El Tryz.prog 4 1 1 ([vb false]):=⟨by kernel_rfl,by kernel_rfl,by kernel_rfl,by decide,by decide⟩
theorem el5:El Tryz.prog 5 1 1 ([.int .u8 0]):=⟨by kernel_rfl,by kernel_rfl,by kernel_rfl,by decide,by decide⟩
theorem el9:El Tryz.prog 9 1 16 ([.string (bs [])]):=⟨by kernel_rfl,by kernel_rfl,by kernel_rfl,by decide,by decide⟩
theorem el22:El Tryz.prog 22 1 24 ([.slice none 0 0]):=⟨by kernel_rfl,by kernel_rfl,by kernel_rfl,by decide,by decide⟩
theorem el46:El Tryz.prog 46 1 24 ([.slice none 0 0]):=⟨by kernel_rfl,by kernel_rfl,by kernel_rfl,by decide,by decide⟩
theorem el58:El Tryz.prog 58 5 32 ([i6 0,i6 0,i6 0,vb false,vb false]):=⟨by kernel_rfl,by kernel_rfl,by kernel_rfl,by decide,by decide⟩
theorem el84:El Tryz.prog 84 7 88 ([i6 0,.string (bs []),.string (bs []),i6 0,i6 0,i6 0,.slice none 0 0]):=⟨by kernel_rfl,by kernel_rfl,by kernel_rfl,by decide,by decide⟩
theorem el88:El Tryz.prog 88 18 240 ([i6 0,.string (bs []),.string (bs []),i6 0,i6 0,i6 0,.slice none 0 0,.slice none 0 0,i6 0,i6 0,i6 0,.slice none 0 0,i6 0,i6 0,i6 0,i6 0,.slice none 0 0,.slice none 0 0]):=⟨by kernel_rfl,by kernel_rfl,by kernel_rfl,by decide,by decide⟩
theorem el110:El Tryz.prog 110 8 104 ([.string (bs []),i6 0,.string (bs []),.string (bs []),i6 0,i6 0,i6 0,.slice none 0 0]):=⟨by kernel_rfl,by kernel_rfl,by kernel_rfl,by decide,by decide⟩
theorem aSq:El Tryz.prog 132 1 16 ([.nilIface]):=⟨by kernel_rfl,by kernel_rfl,by kernel_rfl,by decide,by decide⟩
theorem el135:El Tryz.prog 135 3 32 ([i6 0,i6 0,.nilIface]):=⟨by kernel_rfl,by kernel_rfl,by kernel_rfl,by decide,by decide⟩
theorem aLb:El Tryz.prog 146 2 16 ([i6 0,vb false]):=⟨by kernel_rfl,by kernel_rfl,by kernel_rfl,by decide,by decide⟩
theorem el243:El Tryz.prog 243 1 1 ([.int .i8 0]):=⟨by kernel_rfl,by kernel_rfl,by kernel_rfl,by decide,by decide⟩
theorem aOj:El Tryz.prog 269 2 16 ([i6 0,i6 0]):=⟨by kernel_rfl,by kernel_rfl,by kernel_rfl,by decide,by decide⟩
theorem z8_5:Z8 Tryz.prog 5:=by unfold Z8;kernel_rfl
theorem bz31:Tryz.prog.built 31 []=some ([.slice none 0 0]).toArray:=by kernel_rfl
theorem bz142:Tryz.prog.built 142 []=some ([i6 0,i6 0,i6 0]).toArray:=by kernel_rfl
theorem bz273:Tryz.prog.built 273 []=some ([vb false,vb false,vb false,vb false,vb false,i6 0,i6 0]).toArray:=by kernel_rfl
theorem aAv (a b:Int)(c:Bool):Tryz.prog.built 58 [(0,i6 a),(1,i6 b),(3,vb c)]=some [i6 a,i6 b,i6 0,vb c,vb false].toArray:=by kernel_rfl
theorem bt79_0_5 (a:Option Addr)(b c:Nat)(d:Option Addr)(e f:Nat)(h:Option Addr)(i j:Nat)(k:Option Addr)(l n:Nat):Tryz.prog.built 79 [(0,.agg [.slice a b c,.slice d e f,.slice h i j].toArray),(5,.slice k l n)]=some [.slice a b c,.slice d e f,.slice h i j,.slice none 0 0,.slice none 0 0,.slice none 0 0,i6 0,.slice k l n,.slice none 0 0,i6 0,.slice none 0 0,.slice none 0 0].toArray:=by kernel_rfl
theorem bt84_0 (a:Int):Tryz.prog.built 84 [(0,i6 a)]=some [i6 a,.string (bs []),.string (bs []),i6 0,i6 0,i6 0,.slice none 0 0].toArray:=by kernel_rfl
theorem bt84_0_1 (a:Int)(b:Str):Tryz.prog.built 84 [(0,i6 a),(1,sb b)]=some [i6 a,sb b,.string (bs []),i6 0,i6 0,i6 0,.slice none 0 0].toArray:=by kernel_rfl
theorem aVb (a:Int)(b:Option Addr)(c d:Nat):Tryz.prog.built 84 [(0,i6 a),(6,.slice b c d)]=some [i6 a,.string (bs []),.string (bs []),i6 0,i6 0,i6 0,.slice b c d].toArray:=by kernel_rfl
theorem bt88_0 (a:Int)(b c:Str)(d e f:Int)(h:Option Addr)(i j:Nat):Tryz.prog.built 88 [(0,.agg [i6 a,sb b,sb c,i6 d,i6 e,i6 f,.slice h i j].toArray)]=some [i6 a,sb b,sb c,i6 d,i6 e,i6 f,.slice h i j,.slice none 0 0,i6 0,i6 0,i6 0,.slice none 0 0,i6 0,i6 0,i6 0,i6 0,.slice none 0 0,.slice none 0 0].toArray:=by kernel_rfl
theorem bt91_0_1 (a b:Int):Tryz.prog.built 91 [(0,i6 a),(1,i6 b)]=some [i6 a,i6 b,i6 0,.string (bs [])].toArray:=by kernel_rfl
theorem bt93_0 (a:Str):Tryz.prog.built 93 [(0,sb a)]=some [sb a,i6 0,i6 0,i6 0,i6 0,.string (bs []),.slice none 0 0,.slice none 0 0,.slice none 0 0].toArray:=by kernel_rfl
theorem bt110_0 (a:Str):Tryz.prog.built 110 [(0,sb a)]=some [sb a,i6 0,.string (bs []),.string (bs []),i6 0,i6 0,i6 0,.slice none 0 0].toArray:=by kernel_rfl
theorem aWg (a:Option Nat)(b:Option Addr)(c d:Nat)(e:Option Nat):Tryz.prog.built 124 [(0,.map a),(2,.slice b c d),(3,.map e)]=some [.map a,.slice none 0 0,.slice b c d,.map e].toArray:=by kernel_rfl
theorem aUd (a:Option Addr)(b c:Nat)(d:Int)(e:Option Addr)(f h:Nat):Tryz.prog.built 129 [(0,.slice a b c),(1,i6 d),(4,.slice e f h)]=some [.slice a b c,i6 d,.slice none 0 0,.slice none 0 0,.slice e f h].toArray:=by kernel_rfl
theorem aSx (a b:Int)(a2T:TypeId)(c:Value):Tryz.prog.built 135 [(0,i6 a),(1,i6 b),(2,.iface a2T c)]=some [i6 a,i6 b,.iface a2T c].toArray:=by kernel_rfl
theorem bt138_0 (a:Option Addr)(b c:Nat):Tryz.prog.built 138 [(0,.slice a b c)]=some [.slice a b c,.slice none 0 0,.slice none 0 0].toArray:=by kernel_rfl
theorem aNs (a:Int)(b:Bool):Tryz.prog.built 146 [(0,i6 a),(1,vb b)]=some [i6 a,vb b].toArray:=by kernel_rfl
theorem bAd (a:Int):Tryz.prog.built 172 [(0,i6 a)]=some [i6 a].toArray:=by kernel_rfl
theorem aTv (a b c:Int):Tryz.prog.built 174 [(0,i6 a),(1,i6 b),(2,i6 c)]=some [i6 a,i6 b,i6 c].toArray:=by kernel_rfl
theorem aIk (a b c d e:Int):Tryz.prog.built 176 [(0,i6 a),(1,i6 b),(2,i6 c),(3,i6 d),(4,i6 e)]=some [i6 a,i6 b,i6 c,i6 d,i6 e].toArray:=by kernel_rfl
theorem aUl (a b c:Int):Tryz.prog.built 179 [(0,i6 a),(1,i6 b),(2,i6 c)]=some [i6 a,i6 b,i6 c,.slice none 0 0].toArray:=by kernel_rfl
theorem bt181_0 (a:Int):Tryz.prog.built 181 [(0,i6 a)]=some [i6 a].toArray:=by kernel_rfl
theorem bt183_0 (a:Int):Tryz.prog.built 183 [(0,i6 a)]=some [i6 a].toArray:=by kernel_rfl
theorem bt186_0 (a0T:TypeId)(a:Value):Tryz.prog.built 186 [(0,.iface a0T a)]=some [.iface a0T a].toArray:=by kernel_rfl
theorem bt189_0_1 (a:Option Addr)(b c:Nat)(d:Bool):Tryz.prog.built 189 [(0,.slice a b c),(1,vb d)]=some [.slice a b c,vb d].toArray:=by kernel_rfl
theorem aBt (a0T:TypeId)(a:Value)(b c:Int):Tryz.prog.built 193 [(0,.iface a0T a),(1,i6 b),(2,i6 c)]=some [.iface a0T a,i6 b,i6 c,.slice none 0 0,i6 0,i6 0,i6 0].toArray:=by kernel_rfl
theorem bt196_0_1 (a0T:TypeId)(a:Value)(a1T:TypeId)(b:Value):Tryz.prog.built 196 [(0,.iface a0T a),(1,.iface a1T b)]=some [.iface a0T a,.iface a1T b,i6 0,vb false].toArray:=by kernel_rfl
theorem bt199_0 (a0T:TypeId)(a:Value):Tryz.prog.built 199 [(0,.iface a0T a)]=some [.iface a0T a,i6 0,vb false].toArray:=by kernel_rfl
theorem aNu (a b:Int):Tryz.prog.built 269 [(0,i6 a),(1,i6 b)]=some [i6 a,i6 b].toArray:=by kernel_rfl
theorem bt273_0 (a:Bool):Tryz.prog.built 273 [(0,vb a)]=some [vb a,vb false,vb false,vb false,vb false,i6 0,i6 0].toArray:=by kernel_rfl
theorem aVk (a b c:Bool):Tryz.prog.built 273 [(0,vb a),(1,vb b),(2,vb c)]=some [vb a,vb b,vb c,vb false,vb false,i6 0,i6 0].toArray:=by kernel_rfl
theorem aTu (a b c:Bool):Tryz.prog.built 273 [(0,vb a),(2,vb b),(3,vb c)]=some [vb a,vb false,vb b,vb c,vb false,i6 0,i6 0].toArray:=by kernel_rfl
theorem aVu (a b c:Bool):Tryz.prog.built 273 [(0,vb a),(3,vb b),(4,vb c)]=some [vb a,vb false,vb false,vb b,vb c,i6 0,i6 0].toArray:=by kernel_rfl
theorem aMt (a b:Bool)(c d:Int):Tryz.prog.built 273 [(3,vb a),(4,vb b),(5,i6 c),(6,i6 d)]=some [vb false,vb false,vb false,vb a,vb b,i6 c,i6 d].toArray:=by kernel_rfl
theorem aVj (a:Bool)(b c:Int):Tryz.prog.built 273 [(4,vb a),(5,i6 b),(6,i6 c)]=some [vb false,vb false,vb false,vb false,vb a,i6 b,i6 c].toArray:=by kernel_rfl
theorem aHk (a b:Int):Tryz.prog.built 273 [(5,i6 a),(6,i6 b)]=some [vb false,vb false,vb false,vb false,vb false,i6 a,i6 b].toArray:=by kernel_rfl
abbrev gX (b:Nat):Value:= .pointer (some ⟨b,0,none⟩)
def FAt (t i m:Nat):Prop:= ∀{ρ:Env}{w:World}{d:Option Tmp}{x:Operand}{ty:TypeId}{pos:String}{af:Array Edge}{g:Option (Nat×Bool)}{b o:Nat} (_:ev ρ x= .pointer (some ⟨b,o,none⟩)),Do Tryz.prog ⟨d,.fieldAddr t x i,ty,pos,af,g⟩ ρ w (.pointer (some ⟨b,o+m,none⟩)) w
theorem faO {t i m:Nat}(n:Nat)(h:aMi Tryz.prog t i=some (m,some n):=by kernel_rfl)(hn:n≠0:=by decide):FAt t i m:=λhx=>aNd h hn hx
theorem kG:FAt 26 0 0:=faO 1
theorem rD:FAt 26 1 1:=faO 1
theorem kR:FAt 26 2 2:=faO 1
theorem aAy:FAt 31 0 0:=faO 1
theorem fa58_0:FAt 58 0 0:=faO 1
theorem fa58_1:FAt 58 1 1:=faO 1
theorem aRm:FAt 58 2 2:=faO 1
theorem fa58_3:FAt 58 3 3:=faO 1
theorem aMb:FAt 58 4 4:=faO 1
theorem aEo:FAt 79 0 0:=faO 3
theorem aWu:FAt 79 1 3:=faO 1
theorem aXx:FAt 79 2 4:=faO 1
theorem fa79_3:FAt 79 3 5:=faO 1
theorem aGy:FAt 79 4 6:=faO 1
theorem aGo:FAt 79 5 7:=faO 1
theorem uI:FAt 79 6 8:=faO 1
theorem aWi:FAt 79 7 9:=faO 1
theorem aXs:FAt 79 8 10:=faO 1
theorem aQq:FAt 79 9 11:=faO 1
theorem aO:FAt 84 0 0:=faO 1
theorem kW:FAt 84 1 1:=faO 1
theorem aBr:FAt 84 2 2:=faO 1
theorem vO:FAt 84 3 3:=faO 1
theorem mZ:FAt 84 4 4:=faO 1
theorem mM:FAt 84 5 5:=faO 1
theorem kF:FAt 84 6 6:=faO 1
theorem rW:FAt 88 0 0:=faO 7
theorem aAp:FAt 88 1 7:=faO 1
theorem fa88_2:FAt 88 2 8:=faO 1
theorem mG:FAt 88 3 9:=faO 1
theorem fa88_4:FAt 88 4 10:=faO 1
theorem aBy:FAt 88 5 11:=faO 1
theorem aAm:FAt 88 6 12:=faO 1
theorem aEd:FAt 88 7 13:=faO 1
theorem aEb:FAt 88 8 14:=faO 1
theorem aMr:FAt 88 9 15:=faO 1
theorem qA:FAt 88 10 16:=faO 1
theorem rC:FAt 88 11 17:=faO 1
theorem uG:FAt 91 0 0:=faO 1
theorem fa91_2:FAt 91 2 2:=faO 1
theorem aEk:FAt 91 3 3:=faO 1
theorem aDs:FAt 93 0 0:=faO 1
theorem uF:FAt 93 1 1:=faO 1
theorem kX:FAt 93 2 2:=faO 4
theorem aRt:FAt 93 3 6:=faO 3
theorem fa95_1:FAt 95 1 1:=faO 1
theorem aRe:FAt 100 1 1:=faO 1
theorem aJc:FAt 106 0 0:=faO 1
theorem aJa:FAt 106 1 1:=faO 1
theorem wF:FAt 106 2 2:=faO 7
theorem wJ:FAt 110 0 0:=faO 1
theorem sQ:FAt 110 1 1:=faO 7
theorem aIr:FAt 117 0 0:=faO 1
theorem jO:FAt 117 1 1:=faO 1
theorem sS:FAt 119 0 0:=faO 1
theorem aDb:FAt 119 1 1:=faO 2
theorem aJl:FAt 119 2 3:=faO 1
theorem aFp:FAt 124 0 0:=faO 1
theorem aIv:FAt 124 1 1:=faO 1
theorem fa124_2:FAt 124 2 2:=faO 1
theorem bBb:FAt 124 3 3:=faO 1
theorem bBu:FAt 129 0 0:=faO 1
theorem aIs:FAt 129 2 2:=faO 1
theorem aRc:FAt 129 3 3:=faO 1
theorem aGb:FAt 129 4 4:=faO 1
theorem fa135_0:FAt 135 0 0:=faO 1
theorem fa135_1:FAt 135 1 1:=faO 1
theorem fa135_2:FAt 135 2 2:=faO 1
theorem aJo:FAt 138 0 0:=faO 1
theorem aSk:FAt 138 1 1:=faO 1
theorem aJm:FAt 138 2 2:=faO 1
theorem sW:FAt 142 0 0:=faO 1
theorem aCp:FAt 142 1 1:=faO 1
theorem aCq:FAt 142 2 2:=faO 1
theorem mO:FAt 146 0 0:=faO 1
theorem wH:FAt 146 1 1:=faO 1
theorem fa172_0:FAt 172 0 0:=faO 1
theorem fa174_0:FAt 174 0 0:=faO 1
theorem fa174_1:FAt 174 1 1:=faO 1
theorem fa174_2:FAt 174 2 2:=faO 1
theorem fa176_0:FAt 176 0 0:=faO 1
theorem fa176_1:FAt 176 1 1:=faO 1
theorem fa176_2:FAt 176 2 2:=faO 1
theorem fa176_3:FAt 176 3 3:=faO 1
theorem fa176_4:FAt 176 4 4:=faO 1
theorem fa179_0:FAt 179 0 0:=faO 1
theorem fa179_1:FAt 179 1 1:=faO 1
theorem aZz:FAt 179 2 2:=faO 1
theorem bBt:FAt 179 3 3:=faO 1
theorem fa181_0:FAt 181 0 0:=faO 1
theorem fa183_0:FAt 183 0 0:=faO 1
theorem fa186_0:FAt 186 0 0:=faO 1
theorem fa189_0:FAt 189 0 0:=faO 1
theorem fa189_1:FAt 189 1 1:=faO 1
theorem fa193_0:FAt 193 0 0:=faO 1
theorem bAw:FAt 193 1 1:=faO 1
theorem bCf:FAt 193 2 2:=faO 1
theorem aCv:FAt 193 3 3:=faO 1
theorem aFo:FAt 193 4 4:=faO 3
theorem fa196_0:FAt 196 0 0:=faO 1
theorem fa196_1:FAt 196 1 1:=faO 1
theorem aQm:FAt 196 2 2:=faO 1
theorem fa196_3:FAt 196 3 3:=faO 1
theorem fa199_0:FAt 199 0 0:=faO 1
theorem aRl:FAt 199 1 1:=faO 1
theorem fa199_2:FAt 199 2 2:=faO 1
theorem fa269_0:FAt 269 0 0:=faO 1
theorem aIp:FAt 269 1 1:=faO 1
theorem bAf:FAt 273 0 0:=faO 1
theorem bBn:FAt 273 1 1:=faO 1
theorem aZy:FAt 273 2 2:=faO 1
theorem bBz:FAt 273 3 3:=faO 1
theorem bAv:FAt 273 4 4:=faO 1
theorem fa273_5:FAt 273 5 5:=faO 1
theorem fa273_6:FAt 273 6 6:=faO 1
abbrev fU:=f1 Rp.str
abbrev dG:=f1 dC
abbrev dQ:=f1 dA
abbrev dW:=f1 fZ
abbrev aU:=f1 Rp.bool
abbrev jM:=f1 kN
abbrev qO:=f1 (Rp.int .i64)
abbrev rG:=f1 aGv
abbrev aDg:=f1 aT
abbrev fV:=Rt.row (Rt.of (Rp.int .i64)) 3 []
abbrev bF:=Rt.row dU 88 []
abbrev aDt:=Rt.row (Rt.of fP) 269 []
abbrev vH:=Rt.row wE 135 []
abbrev vW:=Rt.row bQ 132 []
abbrev rw_6:=Rt.row (Rt.of kN) 146 []
abbrev rw_7:=Rt.row (Rt.of (Rp.int .i8)) 243 []
section
variable {O S:List Nat}{v w:World}{a b c d e f g i j k l m n o p q r s t u x y z A B C D E F G H I J K L M:Th}
abbrev hh (p:Prop):Prop:=p->p
theorem un1:hh (Hd O v w S [a]):=id
theorem un2:hh (Hd O v w S [a,b]):=id
theorem un3:hh (Hd O v w S [a,b,c]):=id
theorem un4:hh (Hd O v w S [a,b,c,d]):=id
theorem un5:hh (Hd O v w S [a,b,c,d,e]):=id
theorem un6:hh (Hd O v w S [a,b,c,d,e,f]):=id
theorem un7:hh (Hd O v w S [a,b,c,d,e,f,g]):=id
theorem un8:hh (Hd O v w S [a,b,c,d,e,f,g,i]):=id
theorem un9:hh (Hd O v w S [a,b,c,d,e,f,g,i,j]):=id
theorem uO:hh (Hd O v w S [a,b,c,d,e,f,g,i,j,k]):=id
theorem nY:hh (Hd O v w S [a,b,c,d,e,f,g,i,j,k,l]):=id
theorem aH:hh (Hd O v w S [a,b,c,d,e,f,g,i,j,k,l,m]):=id
theorem dO:hh (Hd O v w S [a,b,c,d,e,f,g,i,j,k,l,m,n]):=id
theorem kL:hh (Hd O v w S [a,b,c,d,e,f,g,i,j,k,l,m,n,o]):=id
theorem uS:hh (Hd O v w S [a,b,c,d,e,f,g,i,j,k,l,m,n,o,p]):=id
theorem qZ:hh (Hd O v w S [a,b,c,d,e,f,g,i,j,k,l,m,n,o,p,q]):=id
theorem aJ:hh (Hd O v w S [a,b,c,d,e,f,g,i,j,k,l,m,n,o,p,q,r]):=id
theorem sK:hh (Hd O v w S [a,b,c,d,e,f,g,i,j,k,l,m,n,o,p,q,r,s]):=id
theorem aUn:hh (Hd O v w S [a,b,c,d,e,f,g,i,j,k,l,m,n,o,p,q,r,s,t]):=id
theorem un20:hh (Hd O v w S [a,b,c,d,e,f,g,i,j,k,l,m,n,o,p,q,r,s,t,u]):=id
theorem un21:hh (Hd O v w S [a,b,c,d,e,f,g,i,j,k,l,m,n,o,p,q,r,s,t,u,x]):=id
theorem un22:hh (Hd O v w S [a,b,c,d,e,f,g,i,j,k,l,m,n,o,p,q,r,s,t,u,x,y]):=id
theorem un23:hh (Hd O v w S [a,b,c,d,e,f,g,i,j,k,l,m,n,o,p,q,r,s,t,u,x,y,z]):=id
theorem un24:hh (Hd O v w S [a,b,c,d,e,f,g,i,j,k,l,m,n,o,p,q,r,s,t,u,x,y,z,A]):=id
theorem un25:hh (Hd O v w S [a,b,c,d,e,f,g,i,j,k,l,m,n,o,p,q,r,s,t,u,x,y,z,A,B]):=id
theorem un26:hh (Hd O v w S [a,b,c,d,e,f,g,i,j,k,l,m,n,o,p,q,r,s,t,u,x,y,z,A,B,C]):=id
theorem un27:hh (Hd O v w S [a,b,c,d,e,f,g,i,j,k,l,m,n,o,p,q,r,s,t,u,x,y,z,A,B,C,D]):=id
theorem un36:hh (Hd O v w S [a,b,c,d,e,f,g,i,j,k,l,m,n,o,p,q,r,s,t,u,x,y,z,A,B,C,D,E,F,G,H,I,J,K,L,M]):=id
end
section
variable {P:Program}{N:Nat}{ops:Array Oper}{Q:Exit->Env->World->Prop}{rest:List Oper}{ρ:Env}{w:World}{d f:Nat}{t u ty tz:TypeId}{x y:Operand}{pos qos:String}{af bf:Array Edge}{g h:Option (Nat×Bool)}{b o m i:Nat}
theorem nf (hx:ev ρ x= .pointer (some ⟨b,o,none⟩))(fa:FAt t i m)(n:RL Tryz.prog N ops Q rest (upd (upd ρ d (.pointer (some ⟨b,o,none⟩))) f (.pointer (some ⟨b,o+m,none⟩))) w)(hy:ev (upd ρ d (.pointer (some ⟨b,o,none⟩))) y= .pointer (some ⟨b,o,none⟩):=by exact rfl)(hw:fO N ops ρ ⟨some d,.nilCheck x,ty,pos,af,g⟩=true:=by exact rfl)(hd:Nat.blt d N=true:=by exact rfl)(hv:fO N ops (upd ρ d (.pointer (some ⟨b,o,none⟩))) ⟨some f,.fieldAddr t y i,tz,qos,bf,h⟩=true:=by exact rfl)(hf:Nat.blt f N=true:=by exact rfl):RL Tryz.prog N ops Q (⟨some d,.nilCheck x,ty,pos,af,g⟩::⟨some f,.fieldAddr t y i,tz,qos,bf,h⟩::rest) ρ w:=zS (dY hx) (zS (fa hy) n hv hf) hw hd
theorem Xn {I:World->Prop}{κ:List MxM.Kd}{K:MxM.Mm->Env->World->Prop}{k q:Nat}{M:MxM.Mm}{σ:List Nat}(hx:ev ρ x= .pointer (some ⟨b,o,none⟩))(fa:FAt t i m)(n:MxM.XL Tryz.prog I N ops κ K M σ rest (upd (upd ρ d (.pointer (some ⟨b,o,none⟩))) f (.pointer (some ⟨b,o+m,none⟩))) w)(hy:ev (upd ρ d (.pointer (some ⟨b,o,none⟩))) y= .pointer (some ⟨b,o,none⟩):=by exact rfl)(hk:MxM.kdOf κ k= .pure:=by exact rfl)(hq:MxM.kdOf κ q= .pure:=by exact rfl)(hw:fO N ops ρ ⟨some d,.nilCheck x,ty,pos,af,g⟩=true:=by exact rfl)(hd:Nat.blt d N=true:=by exact rfl)(hv:fO N ops (upd ρ d (.pointer (some ⟨b,o,none⟩))) ⟨some f,.fieldAddr t y i,tz,qos,bf,h⟩=true:=by exact rfl)(hf:Nat.blt f N=true:=by exact rfl):MxM.XL Tryz.prog I N ops κ K M (k::q::σ) (⟨some d,.nilCheck x,ty,pos,af,g⟩::⟨some f,.fieldAddr t y i,tz,qos,bf,h⟩::rest) ρ w:=XQ (dY hx) (XQ (fa hy) n hq hv hf) hk hw hd
theorem nJ {I:World->Prop}{κ:List MxM.Kd}{K:MxM.Mm->Env->World->Prop}{M:MxM.Mm}{σ O S:List Nat}{v u:World}{l r:List Th}(G:Hd O v u S r)(H:Hd O u w (bks r) l)(n: ∀a,Hd O v a S l->K M ρ a):MxM.XL P I N ops κ K M σ [] ρ w:=MxM.xI λa s=>n a (G.rj (H.Z s))
theorem RH {O S bs:List Nat}{v:World}{l:List Th}{α:Type}{R:Go.Lf.Rt α}{e:TypeId}{D:Hol}{c:List Value}{xl:List α}{j:Int}{a:α}{z y:Value}{n p:Nat}(f:dP P t)(H:Hd O v w S l)(i q:Nat)(hi:l[i]? =some (.tr (Rt.row R e ((j.toNat,c)::D)) [z] bs xl))(hv:z= .slice (some ⟨b,o,none⟩) n p)(hx:at' xl j=some a)(hq:c[q]? =some y)(k:RL P N ops Q rest (upd ρ d y) w)(he:ev ρ x= .pointer (some ⟨b,o+j.toNat*R.sz+q,none⟩):=by exact rfl)(hw:fO N ops ρ ⟨some d,.load t x,ty,pos,af,g⟩=true:=by exact rfl)(hd:Nat.blt d N=true:=by exact rfl):RL P N ops Q (⟨some d,.load t x,ty,pos,af,g⟩::rest) ρ w:=zS (yC f he (Cells.get (H.holeW i hi hv hx Z kU) hq)) k hw hd
theorem XH {h:World}{r:List Nat}{κ:List MxM.Kd}{K:MxM.Mm->Env->World->Prop}{k:Nat}{M:MxM.Mm}{σ O S bs:List Nat}{v:World}{l:List Th}{α:Type}{R:Go.Lf.Rt α}{e:TypeId}{D:Hol}{c:List Value}{xl:List α}{j:Int}{a:α}{z y:Value}{n p:Nat}(u:dP P t)(H:Hd O v w S l)(i q:Nat)(hi:l[i]? =some (.tr (Rt.row R e ((j.toNat,c)::D)) [z] bs xl))(hv:z= .slice (some ⟨b,o,none⟩) n p)(hx:at' xl j=some a)(hq:c[q]? =some y)(m:MxM.XL P (λf=>Only r h f) N ops κ K M σ rest (upd ρ d y) w)(he:ev ρ x= .pointer (some ⟨b,o+j.toNat*R.sz+q,none⟩):=by exact rfl)(hk:MxM.kdOf κ k= .read:=by exact rfl)(hw:fO N ops ρ ⟨some d,.load t x,ty,pos,af,g⟩=true:=by exact rfl)(hd:Nat.blt d N=true:=by exact rfl):MxM.XL P (λf=>Only r h f) N ops κ K M (k::σ) (⟨some d,.load t x,ty,pos,af,g⟩::rest) ρ w:=MxM.yZ oS hk hw hd (λ_ s=>yC u he (Cells.get ((H.Z s).holeW i hi hv hx rfl kU) hq)) m
end
theorem _root_.Go.Lf.Hd.im {O S:List Nat}{v w:World}{l:List Th}(H:Hd O v w S l)(i:Nat){it:Th}(h:l[i]? =some it):it.holds (frees O l) w:=H.V h
theorem _root_.Go.Lf.Hm.im {n:Nat}{A:Nat->Prop}{O S:List Nat}{v w:World}{l:List Th}(H:Hm n A O v w S l)(i:Nat){it:Th}(h:l[i]? =some it):it.holds (frm O l v) w:=H.V h
theorem p1z {P:Program}{R:Ending->World->Prop}{ρ:Env}{w:World}{rs:Array ResultVar}{t:Tmp}{v:Value}(h:R (.returned v) w)(hr:rs= #[.tmp t]:=by exact rfl)(a:ρ t=v:=by exact rfl):aAd P rs R .ret ρ w:=aLp hr a h
theorem en6:En 6:=fJ Tryz.func6
theorem en7:En 7:=fJ Tryz.func7
theorem en8:En 8:=fJ Tryz.func8
theorem en9:En 9:=fJ Tryz.func9
theorem en13:En 13:=fJ Tryz.func13
theorem en15:En 15:=fJ Tryz.func15
theorem en26:En 26:=fJ Tryz.func26
theorem en27:En 27:=fJ Tryz.func27
theorem en28:En 28:=fJ Tryz.func28
theorem en29:En 29:=fJ Tryz.func29
theorem en30:En 30:=fJ Tryz.func30
theorem en32:En 32:=fJ Tryz.func32
theorem en33:En 33:=fJ Tryz.func33
theorem en34:En 34:=fJ Tryz.func34
theorem en42:En 42:=fJ Tryz.func42
theorem en44:En 44:=fJ Tryz.func44
theorem en49:En 49:=fJ Tryz.func49
theorem en51:En 51:=fJ Tryz.func51
theorem en52:En 52:=fJ Tryz.func52
theorem en53:En 53:=fJ Tryz.func53
theorem en61:En 61:=fJ Tryz.func61
theorem en62:En 62:=fJ Tryz.func62
theorem aYl:En 68:=fJ Tryz.func68
theorem aXn:En 69:=fJ Tryz.func69
theorem en70:En 70:=fJ Tryz.func70
theorem en71:En 71:=fJ Tryz.func71
theorem en72:En 72:=fJ Tryz.func72
theorem en74:En 74:=fJ Tryz.func74
theorem en75:En 75:=fJ Tryz.func75
theorem en79:En 79:=fJ Tryz.func79
theorem en81:En 81:=fJ Tryz.func81
theorem aYo:En 84:=fJ Tryz.func84
theorem en85:En 85:=fJ Tryz.func85
theorem en89:En 89:=fJ Tryz.func89
theorem en92:En 92:=fJ Tryz.func92
theorem aXc:En 93:=fJ Tryz.func93
theorem en94:En 94:=fJ Tryz.func94
theorem en95:En 95:=fJ Tryz.func95
theorem en96:En 96:=fJ Tryz.func96
theorem en97:En 97:=fJ Tryz.func97
theorem en99:En 99:=fJ Tryz.func99
theorem en100:En 100:=fJ Tryz.func100
theorem en104:En 104:=fJ Tryz.func104
theorem aBs:En 105:=fJ Tryz.func105
theorem en113:En 113:=fJ Tryz.func113
theorem en116:En 116:=fJ Tryz.func116
theorem en117:En 117:=fJ Tryz.func117
theorem en118:En 118:=fJ Tryz.func118
theorem en120:En 120:=fJ Tryz.func120
theorem en121:En 121:=fJ Tryz.func121
theorem en122:En 122:=fJ Tryz.func122
theorem aIh:En 123:=fJ Tryz.func123
theorem en125:En 125:=fJ Tryz.func125
theorem en140:En 140:=fJ Tryz.func140
theorem en141:En 141:=fJ Tryz.func141
theorem en142:En 142:=fJ Tryz.func142
theorem en144:En 144:=fJ Tryz.func144
theorem bBk:En 145:=fJ Tryz.func145
theorem en146:En 146:=fJ Tryz.func146
theorem en147:En 147:=fJ Tryz.func147
theorem aLv:En 148:=fJ Tryz.func148
theorem en161:En 161:=fJ Tryz.func161
theorem en166:En 166:=fJ Tryz.func166
theorem bAa:En 171:=fJ Tryz.func171
theorem en183:En 183:=fJ Tryz.func183
theorem bAm:En 186:=fJ Tryz.func186
theorem bAu:En 188:=fJ Tryz.func188
theorem en189:En 189:=fJ Tryz.func189
theorem en236:En 236:=fJ Tryz.func236
theorem en238:En 238:=fJ Tryz.func238
theorem en239:En 239:=fJ Tryz.func239
theorem en240:En 240:=fJ Tryz.func240
theorem aVt:En 241:=fJ Tryz.func241
theorem en243:En 243:=fJ Tryz.func243
theorem en246:En 246:=fJ Tryz.func246
theorem en248:En 248:=fJ Tryz.func248
theorem en250:En 250:=fJ Tryz.func250
theorem en252:En 252:=fJ Tryz.func252
theorem en255:En 255:=fJ Tryz.func255
theorem en257:En 257:=fJ Tryz.func257
theorem en259:En 259:=fJ Tryz.func259
theorem en261:En 261:=fJ Tryz.func261
theorem mixed:Tryz.prog.follows .mixedOrders=true:=by kernel_rfl
theorem Fcvw {b:Int}{r:Bool}(a:Fcv b=some r)(H:Hd O w w S []):
  Rt 113 [.int .u8 b] (vb r) w O S []:=by
 refine CW 21 Tryz.func113 ?_;refine SR<|zB (vb false)<|RM<|bE a λe a f=>sJ H (rg [2,19]) [(2,vb e)] ?_ ?_;refine zD<|zA (.int .u8 b)<|wM a λn a=>bE a λh a i=>xR 4 [5,6,7,8] [(8,vb h)] (λwl=>Hd O w wl S []) ?_ ?_;refine RJ a (λa=>zA (.int .u8 b)<|aBm a λj a=>pt (vb j) ?_) λa=>?_;cases a;exact jn<|meet ⟨(yH Z yV),H.U []⟩;refine zL<|zL<|pf (vb false) ?_;cases a;exact jn<|meet ⟨(yH Z yV),H.U []⟩;rintro ρ o H;have a:=i;refine bE a λk a l=>xR 8 [9,10,11,12,13,14,15,16] [(16,vb k)] (λwl=>Hd O w wl S []) ?_ ?_;refine RJ a (λa=>zL<|zL<|zL<|zL<|zL<|zL<|pt (vb true) ?_) λa=>?_;cases a;exact jn<|meet ⟨(yH Z yV),H.U []⟩;refine zA (.int .u8 b)<|wM a λp a=>RJ a (λa=>zA (.int .u8 b)<|aBm a λc a=>pt (vb c)<|pf (vb c) ?_) λa=>?_;cases a;exact jn<|meet ⟨(yH Z yV),H.U []⟩;refine zL<|zL<|pf (vb false)<|pf (vb false) ?_;cases a;exact jn<|meet ⟨(yH Z yV),H.U []⟩;rintro ρ q H;have a:=l;refine RJ a (λa=>zL<|zL<|pt (vb true)<|zB (vb true) ?_) λa=>?_;cases a;exact jn<|mt () (H.U []);refine zA (.int .u8 b)<|fH a λd a=>pf (vb d)<|zB (vb d) ?_;cases a;exact jn<|mt () (H.U []);rintro _ ρ s H;have a:=f;cases a;exact zI<|p1z ⟨Z,H.U []⟩
theorem Fcrw {b:Str}{r:Bool}(a:Fcr b=some r)(H:Hd O w w S []):
  Rt 121 [sb b] (vb r) w O S []:=by
 refine CW 21 Tryz.func121 ?_;refine SR<|zB (vb false)<|RM<|SQ<|SR<|zA (sb b)<|RM<|zJ<|bE a λc a d=>sJ H (rg [4,17]) [(4,vb c)] ?_ ?_;refine SR<|RLb a (xJ (s1:=b) (s2:=[112,104,97,115,101]) Z Z) λe a=>zB (vb e)<|RM<|WJ a ?_ ?_<;>intro a;cases a;exact js<|mt () (H.U []);refine SR<|RLb a (xJ (s1:=b) (s2:=[109,111,118,101]) Z Z) λf a=>zB (vb f)<|RM<|WJ a ?_ ?_<;>intro a;cases a;exact js<|mt () (H.U []);refine SR<|RLb a (xJ (s1:=b) (s2:=[114,117,108,101]) Z Z) λh a=>zB (vb h)<|RM<|WJ a ?_ ?_<;>intro a;cases a;exact js<|mt () (H.U []);refine SR<|RLb a (xJ (s1:=b) (s2:=[105,102]) Z Z) λi a=>zB (vb i)<|RM<|WJ a ?_ ?_<;>intro a;cases a;exact js<|mt () (H.U []);refine SR<|RLb a (xJ (s1:=b) (s2:=[111,114]) Z Z) λj a=>zB (vb j)<|RM<|WJ a ?_ ?_<;>intro a;cases a;exact js<|mt () (H.U []);refine SR<|RLb a (xJ (s1:=b) (s2:=[97,110,100]) Z Z) λk a=>zB (vb k)<|RM<|WJ a ?_ ?_<;>intro a;cases a;exact js<|mt () (H.U []);refine SR<|RLb a (xJ (s1:=b) (s2:=[116,114,117,101]) Z Z) λl a=>zB (vb l)<|RM<|WJ a ?_ ?_<;>intro a;cases a;exact js<|mt () (H.U []);refine SR<|RLb a (xJ (s1:=b) (s2:=[102,97,108,115,101]) Z Z) λn a=>zB (vb n)<|RM<|WJ a ?_ ?_<;>intro a;cases a;exact js<|mt () (H.U []);refine SR<|RLb a (xJ (s1:=b) (s2:=[115,116,101,97,100,121]) Z Z) λo a=>zB (vb o)<|RM<|WJ a ?_ ?_<;>intro a;cases a
 exact js<|mt () (H.U []);refine SR<|RLb a (xJ (s1:=b) (s2:=[110,111,116]) Z Z) λp a=>zB (vb p)<|RM<|WJ a ?_ ?_<;>intro a;cases a;exact js<|mt () (H.U []);refine SR<|RLb a (xJ (s1:=b) (s2:=[102,111,114]) Z Z) λq a=>zB (vb q)<|RM<|WJ a ?_ ?_<;>intro a;cases a;exact js<|mt () (H.U []);refine SR<|RLb a (xJ (s1:=b) (s2:=[119,105,116,104,105,110]) Z Z) λs a=>zB (vb s)<|RM<|WJ a ?_ ?_<;>intro a;cases a;exact js<|mt () (H.U []);refine SR<|RLb a (xJ (s1:=b) (s2:=[99,111,117,110,116]) Z Z) λt a=>zB (vb t)<|RM<|WJ a ?_ ?_<;>intro a;cases a;exact js<|mt () (H.U []);refine SR<|RLb a (xJ (s1:=b) (s2:=[111,102]) Z Z) λu a=>zB (vb u)<|RM<|WJ a ?_ ?_<;>intro a;cases a;exact js<|mt () (H.U []);refine SR<|RLb a (xJ (s1:=b) (s2:=[114,105,115,101,115]) Z Z) λv a=>zB (vb v)<|RM<|WJ a ?_ ?_<;>intro a;cases a;exact js<|mt () (H.U []);refine zD<|RLb a (xJ (s1:=b) (s2:=[115,105,110,99,101]) Z Z) λx a=>zB (vb x) ?_;cases a;exact jn<|mt () (H.U []);rintro _ ρ y H;have a:=d;refine WJ a (λa=>SR<|zB (vb true)<|RM ?_) λa=>?_;cases a;exact zI<|zN<|zH<|p1z ⟨Z,H.U []⟩;refine yP<|zO<|zF<|KN<|SR<|zB (vb false)<|RM ?_;cases a;exact zI<|p1z ⟨Z,H.U []⟩
theorem aZg {b c d:Int}{r:Bool}(a:Fan b c d=some r)(H:Hd O w w S []):
  Rt 84 [i6 b,i6 c,i6 d] (vb r) w O S []:=by
 refine CW 15 Tryz.func84 ?_;refine SR<|zB (vb false)<|RM<|bE a λf a h=>sJ H (rg [6,9]) [(6,vb f)] ?_ ?_;refine zD<|zA (i6 b)<|zA (i6 c)<|wM a λi a=>RJ a (λa=>?_) (λa=>?_);refine zA (i6 b)<|zA (i6 d)<|aBm a λe a=>pt (vb e)<|zB (vb e) ?_;cases a;exact jn<|mt () (H.U []);refine zL<|zL<|zL<|pf (vb false)<|zB (vb false) ?_;cases a;exact jn<|mt () (H.U []);rintro _ ρ j H;have a:=h;cases a;exact zI<|p1z ⟨rfl,H.U []⟩
theorem Favw {b:Str}{r:Bool}(a:Fav b=some r)(H:Hd O w w S []):
  Rt 74 [sb b] (vb r) w O S []:=by
 refine CW 33 Tryz.func74 ?_;refine SR<|zB (vb false)<|RM<|SQ<|bE a λd a e=>sJ H (rg [4,18]) [(21,vb d)] ?_ ?_;refine zD<|zA (sb b)<|RLi a (jR (s1:=b) u9 Z) λA a=>bE a λB f a=>RC aYo (aZg f (H.W [] [])) H λC H=>aI a λD a=>bE a λh a i=>xR 5 [8,9,10,11,12] [(12,vb h)] (λwl=>Hd O w wl S []) ?_ ?_;refine RJ a (λa=>zL<|zL<|zL<|pt (vb true) ?_) λa=>?_;cases a;exact jn<|meet ⟨(yH Z yV),H.U []⟩;refine zA (sb b)<|bE a λE j a=>zS (aCw (s1:=b) (q:=0) u9 Z Z j)<|eG a λk a=>pf (vb k) ?_;cases a;exact jn<|meet ⟨(yH Z yV),H.U []⟩;rintro ρ F H;have a:=i;refine bE a λl a n=>xR 5 [13,14,15,16,17] [(17,vb l)] (λwl=>Hd O w wl S []) ?_ ?_;refine RJ a (λa=>zL<|zL<|zL<|pt (vb true) ?_) λa=>?_;cases a;exact jn<|meet ⟨(yH Z yV),H.U []⟩;refine zA (sb b)<|bE a λG o a=>zS (aCw (s1:=b) (q:=0) u9 Z Z o)<|jF a λp a=>pf (vb p) ?_;cases a;exact jn<|meet ⟨(yH Z yV),H.U []⟩;rintro ρ I H;have a:=n;refine RJ a (λa=>zL<|zL<|pt (vb true) ?_) λa=>?_;cases a;exact jn<|mt () (H.U []);refine zA (sb b)<|bE a λs t a=>RC en121 (Fcrw t (H.W [] [])) H λJ H=>pf (vb s) ?_;cases a;exact jn<|mt () (H.U []);rintro _ ρ K H;have a:=e;refine WJ a (λa=>SR<|zB (vb false)<|RM ?_) λa=>?_;cases a;exact zI<|zH<|p1z ⟨Z,H.U []⟩;refine WZ<|jk a H (rg [2,2,22,11]) (λx (y:Unit)=>[]) (λx y=>[]) [] (λL a=>?_) ?_;refine SR<|zA (sb b)<|RLi a (jR (s1:=b) u9 Z) λM a=>zA (i6 0)<|RM<|zJ<|lo a H (rg [2,2,24,9]) (λx (y:Unit)=>[(24,i6 x)]) (λx y=>[]) [] () (H.U []) ?_
 clear H a;rintro N c _ ρ P H a;refine SR<|eG a λQ a=>RM<|SQ<|WJ a (λa=>WZ<|SQ<|zJ<|SR<|zA (i6 c)<|zB (i6 c)<|RM<|SR<|zA (sb b)<|zA (i6 c)<|bE a λ_ u a=>zS (aCw (s1:=b) (q:=c) u9 Z Z u)<|bE a λT v a=>RC en113 (Fcvw v (H.W [] [])) H λU H=>aI a λV a=>RM<|WJ a (λa=>SR<|zB (vb false)<|RM ?_) λa=>?_) λa=>?_;cases a;exact zI<|zN<|zH<|zH<|zN<|zH<|p1z ⟨Z,H.U []⟩;exact yP<|zO<|zF<|KN<|zD<|eF a λz a=>zA (i6 z)<|jn<|me a () (H.U []);exact zZ<|zQ<|zQ<|zU<|zF<|me a () (H.U []);rintro _ _ ρ X H a;refine SR<|zB (vb true)<|RM ?_;cases a;exact zI<|p1z ⟨Z,H.U []⟩
theorem Faiw {e:List Str}{c:Str}{d:Value}{r:Int}(a:Fai e c=some r)(H:Hd O w w S [fU d e]):
  Rt 52 [d,sb c] (i6 r) w O S []:=by
 refine CW 19 Tryz.func52 ?_;refine SR<|zB (i6 0)<|RM<|jk a H (rg [4,15]) (λx (y:Unit)=>[]) (λx y=>[]) [] (λj a=>?_) ?_;refine SR<|zA d<|ln a (H.im 0 Z) u22 λk a=>zA (i6 0)<|RM<|zJ<|lo a H (rg [4,2,8,11]) (λx (y:Unit)=>[(8,i6 x)]) (λx y=>[]) [0] () (H.U [0]) ?_;clear H a;rintro l b _ ρ n H a;have H:=un1 H;refine SR<|eG a λo a=>RM<|SQ<|WJ a (λa=>WZ<|SQ<|zJ<|SR<|zA (i6 b)<|zB (i6 b)<|RM<|SR<|zA (sb c)<|zA d<|zA (i6 b)<|bE a λf h a=>rea H (H.im 0 Z) (sb f) h u22 sz9 dD λp q H=>RLb a (xJ (s1:=c) (s2:=f) Z Z) λs a=>RM<|WJ a (λa=>SR<|zA (i6 b)<|zB (i6 b)<|RM ?_) λa=>?_) λa=>?_;cases a;exact zI<|zN<|zH<|zH<|zN<|zH<|p1z ⟨Z,H.U []⟩;exact yP<|zO<|zF<|KN<|zD<|eF a λi a=>zA (i6 i)<|jn<|me a () (H.U [0]);exact zZ<|zQ<|zQ<|zU<|zF<|me a () (H.U []);rintro _ _ ρ t H a;refine SR<|zB (i6 (-1))<|RM ?_;cases a;exact zI<|p1z ⟨Z,H.U []⟩
theorem Fbnw {d:List Str}{b:Str}{c:Value}{r:Bool}(a:Fbn d b=some r)(H:Hd O w w S [fU c d]):
  Rt 75 [c,sb b] (vb r) w O S []:=by
 refine CW 9 Tryz.func75 ?_;refine SR<|zB (vb false)<|RM<|SR<|zA c<|zA (sb b)<|bE a λh e a=>RC en52 (Faiw e (H.W [] [0])) H λi H=>wM a λf a=>zB (vb f)<|RM ?_;cases a;exact zI<|p1z ⟨Z,H.U []⟩
abbrev Fi1 (f:Cond->Int->Int->Option (Bool×Int)):Prop:= ∀(p0:Cond) (p1:Int) (p2:Int) (v1:Value) (b3:Nat) (r:Bool×Int) (_:f p0 p1 p2=some r) (O S:List Nat) (w:World) (_:Hd O w w S [.blk b3 [i6 p2] 3,dG v1 p0.Kids]),
  Cl 166 [.agg [i6 p0.Kind,sb p0.Name,sb p0.Other,i6 p0.Op,i6 p0.N,i6 p0.Frames,v1].toArray,i6 p1,gX b3] w λe w'=>e= .returned (vb r.1)/\Hd O w w' S [.blk b3 [i6 r.2] 3]
theorem Fczw (rfC:Cond->Int->Int->Option (Bool×Int))(rhC:Fi1 rfC)(b:Cond)(f j:Int)(i:Value)(d:Nat)(r:Bool×Int)(a:Fcz rfC b f j=some r)(O S:List Nat)(w:World)(H:Hd O w w S [.blk d [i6 j] 3,dG i b.Kids]):
  Cl 166 [.agg [i6 b.Kind,sb b.Name,sb b.Other,i6 b.Op,i6 b.N,i6 b.Frames,i].toArray,i6 f,gX d] w λe l=>e= .returned (vb r.1)/\Hd O w l S [.blk d [i6 r.2] 3]:=by
 unfold Fcz at a;refine CW 36 Tryz.func166 ?_;refine SR<|xb (yT (cs:=[i6 b.Kind,sb b.Name,sb b.Other,i6 b.Op,i6 b.N,i6 b.Frames,i]) Z H) λL M H=>zB (vb false)<|RM<|SR<|zA (gX d)<|zS (dY Z)<|Ld fC H 0 0 Z Z<|eF a λn a=>zS (dY Z)<|xu (yL H 0 Z sz3 Z (v:=i6 n) Z Z Z) λP H=>RM<|SQ<|bE a λo a p=>sJ H (rg [14,8]) [(21,vb o)] ?_ ?_;refine zD<|zA (i6 f)<|fH a λQ a=>RJ a (λa=>zL<|zL<|zL<|zL<|pt (vb true) ?_) λa=>?_;cases a;exact jn<|mt () (H.U [0,1,2]);refine zA (gX d)<|zS (dY Z)<|Ld fC H 0 0 Z Z<|jF a λq a=>pf (vb q) ?_;cases a;exact jn<|mt () (H.U [0,1,2]);rintro _ ρ _ H;have a:=p;refine WJ a (λa=>SR<|zB (vb false)<|RM ?_) λa=>?_;cases a;exact zI<|zH<|p1z ⟨Z,H.U [0]⟩;refine WZ<|jk a H (rg [6,1,8,1,22,14]) (λx (y:Unit)=>[]) (λx y=>[.blk d [i6 x] 3]) [0] (λT a=>?_) ?_;refine SR<|zS (kF Z)<|Ld jY H 2 6 Z Z<|ln a (H.im 1 Z) u82 λU a=>zA (i6 0)<|RM<|zJ ?_;unfold Fir at a;refine lo a H (rg [6,1,8,1,25,11]) (λx (y:Unit)=>[(25,i6 x.1)]) (λx y=>[.blk d [i6 x.2] 3]) [0,2] () (H.U [0,1]) ?_;clear H a;rintro V ⟨s,t⟩ _ ρ X H a;have H:=un2 H;refine SR<|eG a λY a=>RM<|SQ<|WJ a (λa=>WZ<|SQ<|zJ<|SR<|bE a λc k a=>?_) λa=>?_;obtain⟨u,z,_,_,A,B,C,D,E⟩:=xB (H.im 1 Z) k;obtain⟨h,rfl,F⟩:=xY B;have H:=H.fzs [.at u (z+s.toNat*7) _,.sl dC h c.Kids] ⟨⟨C,D,E⟩,F,T1⟩;refine ix u82 eX A k<|zS (yU (yB (cs:=[i6 c.Kind,sb c.Name,sb c.Other,i6 c.Op,i6 c.N,i6 c.Frames,h]) eY Z eX Z (H.im 2 Z).2.2) Z)<|xb (yJ nO H) λ_ _ H=>xu (zY (vs:=[i6 c.Kind,sb c.Name,sb c.Other,i6 c.Op,i6 c.N,i6 c.Frames,h]) H 4 Z eX Z Z Z ⟨Z,Z,Z,Z,Z,Z,(xU (H.im 3 Z)),T1⟩ Z) λ_ H=>RM<|SR<|lb H 4 Z eY eX<|zA (i6 f)<|uP a λG a=>zA (gX d) ?_
 obtain⟨⟨af,_⟩,I,a⟩:=yA a;refine cAz en166 (rhC c G t h d _ I _ _ _ (H.W [0] [3])) λ_ J=>?_;have H:=un5<|H.back [0] [3] Z J;refine aI a λ_ a=>RM<|WJ a (λa=>SR<|zB (vb false)<|RM ?_) λa=>?_;cases a;exact zI<|zN<|zH<|zH<|zN<|zH<|p1z ⟨Z,H.U [4]⟩;exact yP<|zO<|zF<|KN<|zD<|eF a λK a=>zA (i6 K)<|jn<|me a () (H.U [4,0]);exact zZ<|zQ<|zQ<|zU<|zF<|me a () (H.U [0]);rintro _ _ ρ _ H a;have H:=un1 H;refine SR<|zB (vb true)<|RM ?_;cases a;exact zI<|p1z ⟨Z,H.U [0]⟩
theorem Fka:Fi1 (Fgp):=by
 have h: ∀n,Fi1 (Fay n):=by
  intro n
  induction n with
  |zero=>intro b c d e f r a;cases a
  |succ n ih=>intro b c d e f r a;exact Fczw (Fay n) ih b c d e f r a
 exact h FU
theorem Fafw {b:Int}{r:bG×Bool}(a:Faf b=some r)(H:Hd O w w S []):
  Rt 196 [i6 b] (.tuple #[.agg [vb r.1.name,vb r.1.other,vb r.1.op,vb r.1.n,vb r.1.frames,i6 r.1.least,i6 r.1.most].toArray,vb r.2]) w O S []:=by
 refine CW 41 Tryz.func196 ?_;refine SR<|xb (yJ bCb H) λG I H=>zB (vb false)<|RM<|SQ<|SR<|zA (i6 b)<|RM<|zJ<|bE a λc a d=>sJ H [5,6,7] [(5,vb c)] ?_ ?_;refine SR<|fH a λe a=>zB (vb e)<|RM<|WJ a ?_ ?_<;>intro a;cases a;exact js<|mt () (H.U [0]);refine zD<|fH a λf a=>zB (vb f) ?_;cases a;exact jn<|mt () (H.U [0]);rintro _ ρ J H;have a:=d;refine WJ a (λa=>SR<|zS (yX (cs:=[vb false,vb false,vb false,vb false,vb false,i6 0,i6 0]) bz273)<|xu (zY (vs:=[vb false,vb false,vb false,vb false,vb false,i6 0,i6 0]) H 0 Z nH Z Z Z ⟨Z,Z,Z,Z,Z,Z,Z,T1⟩ Z) λK H=>zB (vb true)<|RM ?_) λa=>?_;cases a;exact zI<|zN<|zH<|mJ (v1:=vb true) Z Z (yE vN nH Z (Hbc H 0 Z)) Z ⟨Z,H.U []⟩;refine SR<|fH a λh a=>zB (vb h)<|RM<|WJ a (λa=>SR<|zS (yX (cs:=[vb true,vb false,vb true,vb true,vb false,i6 0,i6 0]) (aTu _ _ _))<|xu (zY (vs:=[vb true,vb false,vb true,vb true,vb false,i6 0,i6 0]) H 0 Z nH Z Z Z ⟨Z,Z,Z,Z,Z,Z,Z,T1⟩ Z) λL H=>zB (vb true)<|RM ?_) λa=>?_;cases a;exact zI<|zN<|zH<|mJ (v1:=vb true) Z Z (yE vN nH Z (Hbc H 0 Z)) Z ⟨Z,H.U []⟩;refine SR<|fH a λi a=>zB (vb i)<|RM<|WJ a (λa=>SR<|zS (yX (cs:=[vb true,vb true,vb true,vb false,vb false,i6 0,i6 0]) (aVk _ _ _))<|xu (zY (vs:=[vb true,vb true,vb true,vb false,vb false,i6 0,i6 0]) H 0 Z nH Z Z Z ⟨Z,Z,Z,Z,Z,Z,Z,T1⟩ Z) λM H=>zB (vb true)<|RM ?_) λa=>?_
 cases a;exact zI<|zN<|zH<|mJ (v1:=vb true) Z Z (yE vN nH Z (Hbc H 0 Z)) Z ⟨Z,H.U []⟩;refine SR<|fH a λj a=>zB (vb j)<|RM<|WJ a (λa=>SR<|zS (yX (cs:=[vb true,vb false,vb false,vb true,vb true,i6 0,i6 0]) (aVu _ _ _))<|xu (zY (vs:=[vb true,vb false,vb false,vb true,vb true,i6 0,i6 0]) H 0 Z nH Z Z Z ⟨Z,Z,Z,Z,Z,Z,Z,T1⟩ Z) λN H=>zB (vb true)<|RM ?_) λa=>?_;cases a;exact zI<|zN<|zH<|mJ (v1:=vb true) Z Z (yE vN nH Z (Hbc H 0 Z)) Z ⟨Z,H.U []⟩;refine bE a λk a l=>sJ H [18,19,20] [(18,vb k)] ?_ ?_;refine SR<|fH a λo a=>zB (vb o)<|RM<|WJ a ?_ ?_<;>intro a;cases a;exact js<|mt () (H.U [0]);refine zD<|fH a λp a=>zB (vb p) ?_;cases a;exact jn<|mt () (H.U [0]);rintro _ ρ P H;have a:=l;refine WJ a (λa=>SR<|zS (yX (cs:=[vb true,vb false,vb false,vb false,vb false,i6 0,i6 0]) (bt273_0 _))<|xu (zY (vs:=[vb true,vb false,vb false,vb false,vb false,i6 0,i6 0]) H 0 Z nH Z Z Z ⟨Z,Z,Z,Z,Z,Z,Z,T1⟩ Z) λQ H=>zB (vb true)<|RM ?_) λa=>?_;cases a;exact zI<|zN<|zH<|mJ (v1:=vb true) Z Z (yE vN nH Z (Hbc H 0 Z)) Z ⟨Z,H.U []⟩;refine bE a λq a s=>sJ H [22,23,24] [(22,vb q)] ?_ ?_;refine SR<|fH a λt a=>zB (vb t)<|RM<|WJ a ?_ ?_<;>intro a;cases a;exact js<|mt () (H.U [0]);refine zD<|fH a λu a=>zB (vb u) ?_;cases a;exact jn<|mt () (H.U [0]);rintro _ ρ _ H;have a:=s;refine WJ a (λa=>SR<|zS (yX (cs:=[vb false,vb false,vb false,vb false,vb false,i6 1,i6 1]) (aHk _ _))<|xu (zY (vs:=[vb false,vb false,vb false,vb false,vb false,i6 1,i6 1]) H 0 Z nH Z Z Z ⟨Z,Z,Z,Z,Z,Z,Z,T1⟩ Z) λT H=>zB (vb true)<|RM ?_) λa=>?_
 cases a;exact zI<|zN<|zH<|mJ (v1:=vb true) Z Z (yE vN nH Z (Hbc H 0 Z)) Z ⟨Z,H.U []⟩;refine bE a λv a x=>sJ H [26,27,28] [(26,vb v)] ?_ ?_;refine SR<|fH a λy a=>zB (vb y)<|RM<|WJ a ?_ ?_<;>intro a;cases a;exact js<|mt () (H.U [0]);refine zD<|fH a λz a=>zB (vb z) ?_;cases a;exact jn<|mt () (H.U [0]);rintro _ ρ U H;have a:=x;refine WJ a (λa=>SR<|zS (yX (cs:=[vb false,vb false,vb false,vb false,vb false,i6 2,i6 200]) (aHk _ _))<|xu (zY (vs:=[vb false,vb false,vb false,vb false,vb false,i6 2,i6 200]) H 0 Z nH Z Z Z ⟨Z,Z,Z,Z,Z,Z,Z,T1⟩ Z) λV H=>zB (vb true)<|RM ?_) λa=>?_;cases a;exact zI<|zN<|zH<|mJ (v1:=vb true) Z Z (yE vN nH Z (Hbc H 0 Z)) Z ⟨Z,H.U []⟩;refine bE a λA a B=>sJ H [30,31,32] [(30,vb A)] ?_ ?_;refine SR<|fH a λC a=>zB (vb C)<|RM<|WJ a ?_ ?_<;>intro a;cases a;exact js<|mt () (H.U [0]);refine zD<|fH a λD a=>zB (vb D) ?_;cases a;exact jn<|mt () (H.U [0]);rintro _ ρ X H;have a:=B;refine WJ a (λa=>SR<|zS (yX (cs:=[vb false,vb false,vb false,vb false,vb true,i6 1,i6 1]) (aVj _ _ _))<|xu (zY (vs:=[vb false,vb false,vb false,vb false,vb true,i6 1,i6 1]) H 0 Z nH Z Z Z ⟨Z,Z,Z,Z,Z,Z,Z,T1⟩ Z) λY H=>zB (vb true)<|RM ?_) λa=>?_;cases a;exact zI<|zN<|zH<|mJ (v1:=vb true) Z Z (yE vN nH Z (Hbc H 0 Z)) Z ⟨Z,H.U []⟩;refine SR<|fH a λE a=>zB (vb E)<|RM<|WJ a ?_ ?_<;>intro a
 refine SR<|zS (yX (cs:=[vb false,vb false,vb false,vb true,vb true,i6 1,i6 1]) (aMt _ _ _ _))<|xu (zY (vs:=[vb false,vb false,vb false,vb true,vb true,i6 1,i6 1]) H 0 Z nH Z Z Z ⟨Z,Z,Z,Z,Z,Z,Z,T1⟩ Z) λ_ H=>zB (vb true)<|RM ?_;cases a;exact zI<|zN<|zH<|mJ (v1:=vb true) Z Z (yE vN nH Z (Hbc H 0 Z)) Z ⟨Z,H.U []⟩;refine SR<|fH a λF a=>zB (vb F)<|RM<|WJ a (λa=>SR<|zS (yX (cs:=[vb false,vb false,vb false,vb false,vb false,i6 2,i6 2]) (aHk _ _))<|xu (zY (vs:=[vb false,vb false,vb false,vb false,vb false,i6 2,i6 2]) H 0 Z nH Z Z Z ⟨Z,Z,Z,Z,Z,Z,Z,T1⟩ Z) λ_ H=>zB (vb true)<|RM ?_) λa=>?_;cases a;exact zI<|zN<|zH<|mJ (v1:=vb true) Z Z (yE vN nH Z (Hbc H 0 Z)) Z ⟨Z,H.U []⟩;refine yP<|zO<|zF<|KN<|SR<|zS (yX (cs:=[vb false,vb false,vb false,vb false,vb false,i6 0,i6 0]) bz273)<|xu (zY (vs:=[vb false,vb false,vb false,vb false,vb false,i6 0,i6 0]) H 0 Z nH Z Z Z ⟨Z,Z,Z,Z,Z,Z,Z,T1⟩ Z) λ_ H=>zB (vb false)<|RM ?_;cases a;exact zI<|mJ (v1:=vb false) Z Z (yE vN nH Z (Hbc H 0 Z)) Z ⟨Z,H.U []⟩
theorem Fa3w {c:Cond}{d:Value}{r:Int}(a:Fa3 c=some r)(H:Hd O w w S [dG d c.Kids]):
  Rt 167 [.agg [i6 c.Kind,sb c.Name,sb c.Other,i6 c.Op,i6 c.N,i6 c.Frames,d].toArray] (i6 r) w O S []:=by
 refine CW 140 Tryz.func167 ?_;refine SR<|xb (yT (cs:=[i6 c.Kind,sb c.Name,sb c.Other,i6 c.Op,i6 c.N,i6 c.Frames,d]) Z H) λe _ H=>zB (i6 0)<|RM<|SR<|zS (aO Z)<|Ld fC H 1 0 Z Z ?_;obtain⟨⟨b,h⟩,u,a⟩:=yA a;refine RC (fJ Tryz.func196) (Fafw u (H.W [] [])) H λ_ H=>zA (.tuple #[.agg [vb b.name,vb b.other,vb b.op,vb b.n,vb b.frames,i6 b.least,i6 b.most].toArray,vb h])<|zS (yF (v:= .agg [vb b.name,vb b.other,vb b.op,vb b.n,vb b.frames,i6 b.least,i6 b.most].toArray) Z Z)<|zS (yF (v:=vb h) Z Z)<|xb (yJ bCb H) λf _ H=>xu (zY (vs:=[vb b.name,vb b.other,vb b.op,vb b.n,vb b.frames,i6 b.least,i6 b.most]) H 2 Z nH Z Z Z ⟨Z,Z,Z,Z,Z,Z,Z,T1⟩ Z) λ_ H=>zB (vb h)<|RM<|SQ<|SR<|zA (vb h)<|aI a λ_ a=>RM<|WJ a (λa=>SR<|zB (i6 7)<|RM ?_) λa=>?_;cases a;exact zI<|zH<|p1z ⟨Z,H.U []⟩;refine WZ<|SQ<|bE a λx a y=>sJ H (rg [13,59]) [(71,vb x)] ?_ ?_;refine zD<|zS (bAf Z)<|Ld pJ H 2 0 Z Z<|aI a λ_ a=>bE a λz a A=>xR 5 [16,17,18,19,20] [(20,vb z)] (λwl=>Hd O w wl S [dG d c.Kids,.blk e [i6 c.Kind,sb c.Name,sb c.Other,i6 c.Op,i6 c.N,i6 c.Frames,d] 84,.blk f [vb b.name,vb b.other,vb b.op,vb b.n,vb b.frames,i6 b.least,i6 b.most] 273]) ?_ ?_;refine RJ a (λa=>zS (kW Z)<|Ld dD H 1 1 Z Z<|RLb a (aCt (s1:=c.Name) (s2:=[]) Z Z) λB a=>pt (vb B) ?_) λa=>?_;cases a;exact jn<|meet ⟨(yH Z yV),H.U [0,1,2]⟩;refine zL<|zL<|zL<|pf (vb false) ?_;cases a;exact jn<|meet ⟨(yH Z yV),H.U [0,1,2]⟩
 rintro ρ _ H;have a:=A;refine bE a λC a D=>xR 10 [21,22,23,24,25,26,27,28,29,30] [(30,vb C)] (λwl=>Hd O w wl S [dG d c.Kids,.blk e [i6 c.Kind,sb c.Name,sb c.Other,i6 c.Op,i6 c.N,i6 c.Frames,d] 84,.blk f [vb b.name,vb b.other,vb b.op,vb b.n,vb b.frames,i6 b.least,i6 b.most] 273]) ?_ ?_;refine RJ a (λa=>zL<|zL<|zL<|zL<|zL<|zL<|zL<|zL<|pt (vb true) ?_) λa=>?_;cases a;exact jn<|meet ⟨(yH Z yV),H.U [0,1,2]⟩;refine zS (bBn Z)<|Ld pJ H 2 1 Z Z<|aI a λ_ a=>RJ a (λa=>zS (aBr Z)<|Ld dD H 1 2 Z Z<|RLb a (aCt (s1:=c.Other) (s2:=[]) Z Z) λk a=>pt (vb k)<|pf (vb k) ?_) λa=>?_;cases a;exact jn<|meet ⟨(yH Z yV),H.U [0,1,2]⟩;refine zL<|zL<|zL<|pf (vb false)<|pf (vb false) ?_;cases a;exact jn<|meet ⟨(yH Z yV),H.U [0,1,2]⟩;rintro ρ _ H;have a:=D;refine bE a λE a F=>xR 10 [31,32,33,34,35,36,37,38,39,40] [(40,vb E)] (λwl=>Hd O w wl S [dG d c.Kids,.blk e [i6 c.Kind,sb c.Name,sb c.Other,i6 c.Op,i6 c.N,i6 c.Frames,d] 84,.blk f [vb b.name,vb b.other,vb b.op,vb b.n,vb b.frames,i6 b.least,i6 b.most] 273]) ?_ ?_;refine RJ a (λa=>zL<|zL<|zL<|zL<|zL<|zL<|zL<|zL<|pt (vb true) ?_) λa=>?_;cases a;exact jn<|meet ⟨(yH Z yV),H.U [0,1,2]⟩;refine zS (aZy Z)<|Ld pJ H 2 2 Z Z<|aI a λ_ a=>RJ a (λa=>zS (vO Z)<|Ld fC H 1 3 Z Z<|aN a λl a=>pt (vb l)<|pf (vb l) ?_) λa=>?_;cases a;exact jn<|meet ⟨(yH Z yV),H.U [0,1,2]⟩;refine zL<|zL<|zL<|pf (vb false)<|pf (vb false) ?_
 cases a;exact jn<|meet ⟨(yH Z yV),H.U [0,1,2]⟩;rintro ρ a0 H;have a:=F;refine bE a λG a I=>xR 10 [41,42,43,44,45,46,47,48,49,50] [(50,vb G)] (λwl=>Hd O w wl S [dG d c.Kids,.blk e [i6 c.Kind,sb c.Name,sb c.Other,i6 c.Op,i6 c.N,i6 c.Frames,d] 84,.blk f [vb b.name,vb b.other,vb b.op,vb b.n,vb b.frames,i6 b.least,i6 b.most] 273]) ?_ ?_;refine RJ a (λa=>zL<|zL<|zL<|zL<|zL<|zL<|zL<|zL<|pt (vb true) ?_) λa=>?_;cases a;exact jn<|meet ⟨(yH Z yV),H.U [0,1,2]⟩;refine zS (bBz Z)<|Ld pJ H 2 3 Z Z<|aI a λ_ a=>RJ a (λa=>zS (mZ Z)<|Ld fC H 1 4 Z Z<|aN a λo a=>pt (vb o)<|pf (vb o) ?_) λa=>?_;cases a;exact jn<|meet ⟨(yH Z yV),H.U [0,1,2]⟩;refine zL<|zL<|zL<|pf (vb false)<|pf (vb false) ?_;cases a;exact jn<|meet ⟨(yH Z yV),H.U [0,1,2]⟩;rintro ρ a2 H;have a:=I;refine bE a λJ a K=>xR 10 [51,52,53,54,55,56,57,58,59,60] [(60,vb J)] (λwl=>Hd O w wl S [dG d c.Kids,.blk e [i6 c.Kind,sb c.Name,sb c.Other,i6 c.Op,i6 c.N,i6 c.Frames,d] 84,.blk f [vb b.name,vb b.other,vb b.op,vb b.n,vb b.frames,i6 b.least,i6 b.most] 273]) ?_ ?_;refine RJ a (λa=>zL<|zL<|zL<|zL<|zL<|zL<|zL<|zL<|pt (vb true) ?_) λa=>?_;cases a;exact jn<|meet ⟨(yH Z yV),H.U [0,1,2]⟩;refine zS (bAv Z)<|Ld pJ H 2 4 Z Z<|aI a λa3 a=>RJ a (λa=>zS (mM Z)<|Ld fC H 1 5 Z Z<|aN a λp a=>pt (vb p)<|pf (vb p) ?_) λa=>?_;cases a;exact jn<|meet ⟨(yH Z yV),H.U [0,1,2]⟩;refine zL<|zL<|zL<|pf (vb false)<|pf (vb false) ?_
 cases a;exact jn<|meet ⟨(yH Z yV),H.U [0,1,2]⟩;rintro ρ a4 H;have a:=K;refine RJ a (λa=>zL<|zL<|zL<|zL<|zL<|zL<|zL<|zL<|zL<|pt (vb true) ?_) λa=>?_;cases a;exact jn<|mt () (H.U [0,1,2]);refine zS (kF Z)<|Ld jY H 1 6 Z Z<|ln a (H.im 0 Z) u82 λa5 a=>zS (fa273_5 Z)<|Ld fC H 2 5 Z Z<|zS (fa273_6 Z)<|Ld fC H 2 6 Z Z<|bE a λ_ L a=>RC aYo (aZg L (H.W [] [])) H λ_ H=>aI a λM a=>pf (vb M) ?_;cases a;exact jn<|mt () (H.U [0,1,2]);rintro _ ρ _ H;have a:=y;refine WJ a (λa=>SR<|zB (i6 2)<|RM ?_) λa=>?_;cases a;exact zI<|zH<|p1z ⟨Z,H.U []⟩;refine WZ<|SQ<|zJ<|bE a λP a Q=>sJ H (rg [72,19]) [(72,vb P)] ?_ ?_;refine zD<|zS (bAf Z)<|Ld pJ H 2 0 Z Z<|bE a λR a T=>xR 6 [75,76,77,78,79,80] [(80,vb R)] (λwl=>Hd O w wl S [dG d c.Kids,.blk e [i6 c.Kind,sb c.Name,sb c.Other,i6 c.Op,i6 c.N,i6 c.Frames,d] 84,.blk f [vb b.name,vb b.other,vb b.op,vb b.n,vb b.frames,i6 b.least,i6 b.most] 273]) ?_ ?_;refine RJ a (λa=>zS (kW Z)<|Ld dD H 1 1 Z Z<|bE a λa9 U a=>RC en74 (Favw U (H.W [] [])) H λ_ H=>aI a λV a=>pt (vb V) ?_) λa=>?_;cases a;exact jn<|meet ⟨(yH Z yV),H.U [0,1,2]⟩;refine zL<|zL<|zL<|zL<|pf (vb false) ?_;cases a;exact jn<|meet ⟨(yH Z yV),H.U [0,1,2]⟩;rintro ρ _ H;have a:=T;refine RJ a (λa=>zL<|zL<|zL<|zL<|zL<|zL<|zL<|zL<|pt (vb true)<|zB (vb true) ?_) λa=>?_;cases a;exact jn<|mt () (H.U [0,1,2])
 refine zS (bBn Z)<|Ld pJ H 2 1 Z Z<|RJ a (λa=>zS (aBr Z)<|Ld dD H 1 2 Z Z<|bE a λ_ X a=>RC en74 (Favw X (H.W [] [])) H λ_ H=>aI a λi a=>pt (vb i)<|pf (vb i)<|zB (vb i) ?_) λa=>?_;cases a;exact jn<|mt () (H.U [0,1,2]);refine zL<|zL<|zL<|zL<|pf (vb false)<|pf (vb false)<|zB (vb false) ?_;cases a;exact jn<|mt () (H.U [0,1,2]);rintro _ ρ _ H;have a:=Q;refine WJ a (λa=>SR<|zB (i6 8)<|RM ?_) λa=>?_;cases a;exact zI<|zN<|zH<|p1z ⟨Z,H.U []⟩;refine bE a λY a aa=>sJ H (rg [91,9]) [(91,vb Y)] ?_ ?_;refine zD<|zS (aZy Z)<|Ld pJ H 2 2 Z Z<|RJ a (λa=>zS (vO Z)<|Ld fC H 1 3 Z Z<|bE a λbf ab a=>RC aYo (aZg ab (H.W [] [])) H λ_ H=>aI a λq a=>pt (vb q)<|zB (vb q) ?_) λa=>?_;cases a;exact jn<|mt () (H.U [0,1,2]);refine zL<|zL<|zL<|zL<|pf (vb false)<|zB (vb false) ?_;cases a;exact jn<|mt () (H.U [0,1,2]);rintro _ ρ _ H;have a:=aa;refine WJ a (λa=>SR<|zB (i6 7)<|RM ?_) λa=>?_;cases a;exact zI<|zN<|zH<|p1z ⟨Z,H.U []⟩;refine bE a λac a ad=>sJ H (rg [100,9]) [(100,vb ac)] ?_ ?_;refine zD<|zS (bAv Z)<|Ld pJ H 2 4 Z Z<|RJ a (λa=>zS (mM Z)<|Ld fC H 1 5 Z Z<|bE a λ_ ae a=>RC aYo (aZg ae (H.W [] [])) H λ_ H=>aI a λs a=>pt (vb s)<|zB (vb s) ?_) λa=>?_;cases a;exact jn<|mt () (H.U [0,1,2]);refine zL<|zL<|zL<|zL<|pf (vb false)<|zB (vb false) ?_;cases a;exact jn<|mt () (H.U [0,1,2])
 rintro _ ρ _ H;have a:=ad;refine WJ a (λa=>SR<|zB (i6 9)<|RM ?_) λa=>?_;cases a;exact zI<|zN<|zH<|p1z ⟨Z,H.U []⟩;refine bE a λaf a ag=>sJ H (rg [109,12]) [(109,vb af)] ?_ ?_;refine zD<|zS (aO Z)<|Ld fC H 1 0 Z Z<|fH a λ_ a=>RJ a (λa=>zS (mZ Z)<|Ld fC H 1 4 Z Z<|zS (mM Z)<|Ld fC H 1 5 Z Z<|bE a λ_ ah a=>RC aYo (aZg ah (H.W [] [])) H λ_ H=>aI a λt a=>pt (vb t)<|zB (vb t) ?_) λa=>?_;cases a;exact jn<|mt () (H.U [0,1,2]);refine zL<|zL<|zL<|zL<|zL<|zL<|pf (vb false)<|zB (vb false) ?_;cases a;exact jn<|mt () (H.U [0,1,2]);rintro _ ρ _ H;have a:=ag;refine WJ a (λa=>SR<|zB (i6 9)<|RM ?_) λa=>?_;cases a;exact zI<|zN<|zH<|p1z ⟨Z,H.U []⟩;refine bE a λai a aj=>jo H (rg [121,19]) (λ(g:Unit)=>[(121,vb ai)]) (λg=>[]) [] ?_ ?_;refine zD<|zS (bBz Z)<|Ld pJ H 2 3 Z Z<|bE a λak a al=>xR 6 [124,125,126,127,128,129] [(129,vb ak)] (λwl=>Hd O w wl S [dG d c.Kids,.blk e [i6 c.Kind,sb c.Name,sb c.Other,i6 c.Op,i6 c.N,i6 c.Frames,d] 84,.blk f [vb b.name,vb b.other,vb b.op,vb b.n,vb b.frames,i6 b.least,i6 b.most] 273]) ?_ ?_;refine RJ a (λa=>zS (mZ Z)<|Ld fC H 1 4 Z Z<|bE a λ_ am a=>RC aYo (aZg am (H.W [] [])) H λ_ H=>aI a λan a=>pt (vb an) ?_) λa=>?_;cases a;exact jn<|meet ⟨(yH Z yV),H.U [0,1,2]⟩;refine zL<|zL<|zL<|zL<|pf (vb false) ?_;cases a;exact jn<|meet ⟨(yH Z yV),H.U [0,1,2]⟩;rintro ρ _ H
 have a:=al;refine RJ a (λa=>zL<|zL<|zL<|zL<|zL<|zL<|zL<|zL<|pt (vb true)<|zB (vb true) ?_) λa=>?_;cases a;exact jn<|mt () (H.U []);refine zS (aO Z)<|Ld fC H 1 0 Z Z<|fH a λ_ a=>RJ a (λa=>zS (mZ Z)<|Ld fC H 1 4 Z Z<|eG a λj a=>pt (vb j)<|pf (vb j)<|zB (vb j) ?_) λa=>?_;cases a;exact jn<|mt () (H.U []);refine zL<|zL<|zL<|pf (vb false)<|pf (vb false)<|zB (vb false) ?_;cases a;exact jn<|mt () (H.U []);rintro _ ρ _ H;have a:=aj;refine WJ a (λa=>SR<|zB (i6 9)<|RM ?_) λa=>?_;cases a;exact zI<|zN<|zH<|p1z ⟨Z,H.U []⟩;refine yP<|zO<|zF<|KN<|SR<|zB (i6 0)<|RM ?_;cases a;exact zI<|p1z ⟨Z,H.U []⟩
abbrev Fjc (f:Cond->Option Int):Prop:= ∀(p0:Cond) (v1:Value) (r:Int) (_:f p0=some r) (O S:List Nat) (w:World) (_:Hd O w w S [dG v1 p0.Kids]),
  Cl 123 [.agg [i6 p0.Kind,sb p0.Name,sb p0.Other,i6 p0.Op,i6 p0.N,i6 p0.Frames,v1].toArray,.func (.func 167) #[] #[]] w λe w'=>e= .returned (i6 r)/\Hd O w w' S []
theorem Feaw (rfD:Cond->Option Int)(rhD:Fjc rfD)(b:Cond)(i:Value)(r:Int)(a:Fea rfD b=some r)(O S:List Nat)(w:World)(H:Hd O w w S [dG i b.Kids]):
  Cl 123 [.agg [i6 b.Kind,sb b.Name,sb b.Other,i6 b.Op,i6 b.N,i6 b.Frames,i].toArray,.func (.func 167) #[] #[]] w λe k=>e= .returned (i6 r)/\Hd O w k S []:=by
 unfold Fea at a;refine CW 29 Tryz.func123 ?_;refine SR<|xb (yT (cs:=[i6 b.Kind,sb b.Name,sb b.Other,i6 b.Op,i6 b.N,i6 b.Frames,i]) Z H) λE F H=>zB (i6 0)<|RM<|SQ<|SR<|zA (.func (.func 167) #[] #[])<|lb H 1 Z eY eX ?_;have l:=H;refine bE a λd n a=>xG Z Z (kS (fJ Tryz.func167) Z Z) (Fa3w n (H.W [] [0])) ?_;rintro _ G ⟨rfl,o⟩;have H:=l.step (o.only:Only [] _ _);refine⟨_,Z,?_⟩;refine zB (i6 d)<|RM<|SR<|zA (i6 d)<|aN a λI a=>RM<|WJ a (λa=>SR<|zA (i6 d)<|zB (i6 d)<|RM ?_) λa=>?_;cases a;exact zI<|zH<|p1z ⟨Z,H.U []⟩;refine WZ<|jk a H (rg [4,1,7,2,15,14]) (λx (y:Unit)=>[]) (λx y=>[]) [] (λJ a=>?_) ?_;refine SR<|zS (kF Z)<|Ld jY H 1 6 Z Z<|ln a (H.im 0 Z) u82 λK a=>zA (i6 0)<|RM<|zJ ?_;unfold Fil at a;refine lo a H (rg [4,1,7,2,18,11]) (λx (y:Unit)=>[(18,i6 x)]) (λx y=>[]) [0] () (H.U [0]) ?_;clear H a;rintro L p _ ρ M H a;have H:=un1 H;refine SR<|eG a λP a=>RM<|SQ<|WJ a (λa=>WZ<|SQ<|zJ<|SR<|bE a λc j a=>?_) λa=>?_;obtain⟨q,s,Q,_,t,u,v,z,A⟩:=xB (H.im 0 Z) j;obtain⟨f,rfl,B⟩:=xY u;have H:=H.fzs [.at q (s+p.toNat*7) _,.sl dC f c.Kids] ⟨⟨v,z,A⟩,B,T1⟩;refine ix u82 eX t j<|zS (yU (yB (cs:=[i6 c.Kind,sb c.Name,sb c.Other,i6 c.Op,i6 c.N,i6 c.Frames,f]) eY Z eX Z (H.im 1 Z).2.2) Z)<|xb (yJ nO H) λT U H=>xu (zY (vs:=[i6 c.Kind,sb c.Name,sb c.Other,i6 c.Op,i6 c.N,i6 c.Frames,f]) H 3 Z eX Z Z Z ⟨Z,Z,Z,Z,Z,Z,(xU (H.im 2 Z)),T1⟩ Z) λV H=>RM<|SR<|lb H 3 Z eY eX<|zA (.func (.func 167) #[] #[])<|bE a λh C a=>RC aIh (rhD c f _ C _ _ _ (H.W [] [2])) H λX H=>zB (i6 h)<|RM<|SR<|zA (i6 h)<|aN a λY a=>RM<|WJ a ?_ ?_<;>intro a
 refine SR<|zA (i6 h)<|zB (i6 h)<|RM ?_;cases a;exact zI<|zN<|zH<|zH<|zN<|zH<|p1z ⟨Z,H.U []⟩;exact yP<|zO<|zF<|KN<|zD<|eF a λD a=>zA (i6 D)<|jn<|me a () (H.U [0]);exact zZ<|zQ<|zQ<|zU<|zF<|me a () (H.U []);rintro _ _ ρ _ H a;refine SR<|zB (i6 0)<|RM ?_;cases a;exact zI<|p1z ⟨Z,H.U []⟩
theorem Fjz:Fjc (Fg1):=by
 have h: ∀n,Fjc (Fb2 n):=by
  intro n
  induction n with
  |zero=>intro b c r a;cases a
  |succ n ih=>intro b c r a;exact Feaw (Fb2 n) ih b c r a
 exact h FU
theorem Fckw {a:Cond}{c:Value}{r:Int}(b:Fck a=some r)(H:Hd O w w S [dG c a.Kids]):
  Rt 122 [.agg [i6 a.Kind,sb a.Name,sb a.Other,i6 a.Op,i6 a.N,i6 a.Frames,c].toArray] (i6 r) w O S []:=by
 refine CW 9 Tryz.func122 ?_;refine SR<|xb (yT (cs:=[i6 a.Kind,sb a.Name,sb a.Other,i6 a.Op,i6 a.N,i6 a.Frames,c]) Z H) λj k H=>zB (i6 0)<|RM<|SR<|xb (yJ zero3 H) λd l H=>xu (yL H 2 Z sz3 Z (v:=i6 0) Z Z Z) λn H=>RM<|SQ<|SR<|lb H 1 Z eY eX ?_;obtain⟨⟨o,p⟩,e,b⟩:=yA b;refine cAz en166 (Fka a 20 0 c d _ e _ _ _ (H.W [2] [0])) λq f=>?_;have H:=un3<|H.back [2] [0] Z f;refine aI b λs b=>RM<|WJ b (λb=>SR<|zB (i6 3)<|RM ?_) λb=>?_;cases b;exact zI<|zH<|p1z ⟨Z,H.U []⟩;refine WZ<|SR<|lb H 1 Z eY eX<|bE b λh i b=>RC aIh (Fjz a c _ i _ _ _ (H.W [] [0])) H λt H=>zB (i6 h)<|RM ?_;cases b;exact zI<|p1z ⟨Z,H.U []⟩
theorem Fd1w {b:Cond}{c:Value}{r:Int}(a:Fd1 b=some r)(H:Hd O w w S [dG c b.Kids]):
  Rt 124 [.agg [i6 b.Kind,sb b.Name,sb b.Other,i6 b.Op,i6 b.N,i6 b.Frames,c].toArray] (i6 r) w O S []:=by
 refine CW 11 Tryz.func124 ?_;refine SR<|xb (yT (cs:=[i6 b.Kind,sb b.Name,sb b.Other,i6 b.Op,i6 b.N,i6 b.Frames,c]) Z H) λh i H=>zB (i6 0)<|RM<|SQ<|bE a λd a e=>jo H (rg [3,8]) (λ(g:Unit)=>[(10,vb d)]) (λg=>[]) [] ?_ ?_;refine zD<|zS (aO Z)<|Ld fC H 1 0 Z Z<|fH a λj a=>RJ a (λa=>zL<|zL<|zL<|pt (vb true) ?_) λa=>?_;cases a;exact jn<|mt () (H.U []);refine zS (aO Z)<|Ld fC H 1 0 Z Z<|fH a λf a=>pf (vb f) ?_;cases a;exact jn<|mt () (H.U []);rintro _ ρ k H;have a:=e;refine WJ a (λa=>SR<|zB (i6 2)<|RM ?_) λa=>?_;cases a;exact zI<|zH<|p1z ⟨Z,H.U []⟩;refine WZ<|SR<|zB (i6 0)<|RM ?_;cases a;exact zI<|p1z ⟨Z,H.U []⟩
abbrev Fhm (f:Cond->Option Int):Prop:= ∀(p0:Cond) (v1:Value) (r:Int) (_:f p0=some r) (O S:List Nat) (w:World) (_:Hd O w w S [dG v1 p0.Kids]),
  Cl 123 [.agg [i6 p0.Kind,sb p0.Name,sb p0.Other,i6 p0.Op,i6 p0.N,i6 p0.Frames,v1].toArray,.func (.func 124) #[] #[]] w λe w'=>e= .returned (i6 r)/\Hd O w w' S []
theorem Fd3w (rfE:Cond->Option Int)(rhE:Fhm rfE)(b:Cond)(i:Value)(r:Int)(a:Fd3 rfE b=some r)(O S:List Nat)(w:World)(H:Hd O w w S [dG i b.Kids]):
  Cl 123 [.agg [i6 b.Kind,sb b.Name,sb b.Other,i6 b.Op,i6 b.N,i6 b.Frames,i].toArray,.func (.func 124) #[] #[]] w λe k=>e= .returned (i6 r)/\Hd O w k S []:=by
 unfold Fd3 at a;refine CW 29 Tryz.func123 ?_;refine SR<|xb (yT (cs:=[i6 b.Kind,sb b.Name,sb b.Other,i6 b.Op,i6 b.N,i6 b.Frames,i]) Z H) λE F H=>zB (i6 0)<|RM<|SQ<|SR<|zA (.func (.func 124) #[] #[])<|lb H 1 Z eY eX ?_;have l:=H;refine bE a λd n a=>xG Z Z (kS (fJ Tryz.func124) Z Z) (Fd1w n (H.W [] [0])) ?_;rintro _ G ⟨rfl,o⟩;have H:=l.step (o.only:Only [] _ _);refine⟨_,Z,?_⟩;refine zB (i6 d)<|RM<|SR<|zA (i6 d)<|aN a λI a=>RM<|WJ a (λa=>SR<|zA (i6 d)<|zB (i6 d)<|RM ?_) λa=>?_;cases a;exact zI<|zH<|p1z ⟨Z,H.U []⟩;refine WZ<|jk a H (rg [4,1,7,2,15,14]) (λx (y:Unit)=>[]) (λx y=>[]) [] (λJ a=>?_) ?_;refine SR<|zS (kF Z)<|Ld jY H 1 6 Z Z<|ln a (H.im 0 Z) u82 λK a=>zA (i6 0)<|RM<|zJ ?_;unfold Fhl at a;refine lo a H (rg [4,1,7,2,18,11]) (λx (y:Unit)=>[(18,i6 x)]) (λx y=>[]) [0] () (H.U [0]) ?_;clear H a;rintro L p _ ρ M H a;have H:=un1 H;refine SR<|eG a λP a=>RM<|SQ<|WJ a (λa=>WZ<|SQ<|zJ<|SR<|bE a λc j a=>?_) λa=>?_;obtain⟨q,s,Q,_,t,u,v,z,A⟩:=xB (H.im 0 Z) j;obtain⟨f,rfl,B⟩:=xY u;have H:=H.fzs [.at q (s+p.toNat*7) _,.sl dC f c.Kids] ⟨⟨v,z,A⟩,B,T1⟩;refine ix u82 eX t j<|zS (yU (yB (cs:=[i6 c.Kind,sb c.Name,sb c.Other,i6 c.Op,i6 c.N,i6 c.Frames,f]) eY Z eX Z (H.im 1 Z).2.2) Z)<|xb (yJ nO H) λT U H=>xu (zY (vs:=[i6 c.Kind,sb c.Name,sb c.Other,i6 c.Op,i6 c.N,i6 c.Frames,f]) H 3 Z eX Z Z Z ⟨Z,Z,Z,Z,Z,Z,(xU (H.im 2 Z)),T1⟩ Z) λV H=>RM<|SR<|lb H 3 Z eY eX<|zA (.func (.func 124) #[] #[])<|bE a λh C a=>RC aIh (rhE c f _ C _ _ _ (H.W [] [2])) H λX H=>zB (i6 h)<|RM<|SR<|zA (i6 h)<|aN a λY a=>RM<|WJ a ?_ ?_<;>intro a
 refine SR<|zA (i6 h)<|zB (i6 h)<|RM ?_;cases a;exact zI<|zN<|zH<|zH<|zN<|zH<|p1z ⟨Z,H.U []⟩;exact yP<|zO<|zF<|KN<|zD<|eF a λD a=>zA (i6 D)<|jn<|me a () (H.U [0]);exact zZ<|zQ<|zQ<|zU<|zF<|me a () (H.U []);rintro _ _ ρ _ H a;refine SR<|zB (i6 0)<|RM ?_;cases a;exact zI<|p1z ⟨Z,H.U []⟩
theorem Fj6:Fhm (Fg4):=by
 have h: ∀n,Fhm (Fb1 n):=by
  intro n
  induction n with
  |zero=>intro b c r a;cases a
  |succ n ih=>intro b c r a;exact Fd3w (Fb1 n) ih b c r a
 exact h FU
theorem Fdhw {d:Rules}{b:dE}{f h j c:Value}{r:Int}(a:Fdh d b=some r)(H:Hd O w w S [fU f d.Phases,dW h d.Moves,dQ j d.Rules,dG c b.When.Kids]):
  Rt 76 [.agg [f,h,j].toArray,.agg [sb b.From,sb b.To,i6 b.When.Kind,sb b.When.Name,sb b.When.Other,i6 b.When.Op,i6 b.When.N,i6 b.When.Frames,c].toArray] (i6 r) w O S []:=by
 refine CW 33 Tryz.func76 ?_;refine SR<|xb (yT (cs:=[f,h,j]) Z H) λC D H=>xb (yT (cs:=[sb b.From,sb b.To,i6 b.When.Kind,sb b.When.Name,sb b.When.Other,i6 b.When.Op,i6 b.When.N,i6 b.When.Frames,c]) Z H) λE F H=>zB (i6 0)<|RM<|jk a H (rg [4,1,6,1,8,16]) (λx (y:Unit)=>[]) (λx y=>[]) [3,5] (λG a=>?_) ?_;refine SR<|zS (aJc Z)<|Ld dD H 5 0 Z Z<|zS (aJa Z)<|Ld dD H 5 1 Z Z<|lE a λI n a=>?_;subst n;refine xv (kl kStr [b.From,b.To] u22 el9 H) λJ K H=>?_;obtain⟨L,M,o⟩:=Sr.len (Sr.xH (H.im 6 Z));refine RLi a (bW u22 o) λP a=>zA (i6 0)<|RM<|zJ<|lo a H (rg [4,1,6,1,14,10]) (λx (y:Unit)=>[(14,i6 x)]) (λx y=>[]) (rg [0,7]) () (H.U (rg [0,7])) ?_;clear H a;rintro Q _ _ ρ T H a;have H:=un7 H;refine SR<|eG a λU a=>RM<|SQ<|WJ a (λa=>WZ<|SQ<|zJ<|SR<|bE a λk l a=>?_) λa=>?_;obtain⟨V,X,p,q,s,t⟩:=aZ (H.im 6 Z) l;obtain rfl:p=[sb k]:=s;refine ix u22 sz9 q l<|zS (yC dD Z (Cells.get t (i:=0) Z))<|zB (sb k)<|RM<|SR<|zS (kG Z)<|Ld aY H 4 0 Z Z<|zA (sb k)<|bE a λY u a=>RC en75 (Fbnw u (H.W [] [0])) H λ_ H=>aI a λ_ a=>RM<|WJ a (λa=>SR<|zB (i6 4)<|RM ?_) λa=>?_;cases a;exact zI<|zN<|zH<|zH<|zN<|zH<|p1z ⟨Z,H.U []⟩;exact yP<|zO<|zF<|KN<|zD<|eF a λv a=>zA (i6 v)<|jn<|me a () (H.U (rg [0,7]));exact zZ<|zQ<|zQ<|zU<|zF<|me a () (H.U [3,5]);rintro _ _ ρ _ H a;have H:=un2 H;refine SQ<|SR<|zS (wF Z)<|zS (yU (yB (cs:=[i6 b.When.Kind,sb b.When.Name,sb b.When.Other,i6 b.When.Op,i6 b.When.N,i6 b.When.Frames,c]) eY Z eX Z (Cells.drop (Hbc H 1 Z) 2 7)) Z)<|bE a λe z a=>RC en122 (Fckw z (H.W [] [0])) H λ_ H=>zB (i6 e)<|RM<|SR<|zA (i6 e)<|aN a λ_ a=>RM<|WJ a ?_ ?_<;>intro a
 refine SR<|zA (i6 e)<|zB (i6 e)<|RM ?_;cases a;exact zI<|zH<|p1z ⟨Z,H.U []⟩;refine WZ<|SR<|zS (wF Z)<|zS (yU (yB (cs:=[i6 b.When.Kind,sb b.When.Name,sb b.When.Other,i6 b.When.Op,i6 b.When.N,i6 b.When.Frames,c]) eY Z eX Z (Cells.drop (Hbc H 1 Z) 2 7)) Z)<|bE a λA B a=>RC aIh (Fj6 b.When c _ B _ _ _ (H.W [] [0])) H λaf H=>zB (i6 A)<|RM ?_;cases a;exact zI<|p1z ⟨Z,H.U []⟩
theorem Fflw {a:Rule}{b:Str}{c:Value}{d:Nat}{r:Bool}(e:Ffl a b=some r)(H:Hd O w w S [.blk d [sb b] 9,dG c a.When.Kids]):
  Rt 127 [.agg [sb a.Name,i6 a.When.Kind,sb a.When.Name,sb a.When.Other,i6 a.When.Op,i6 a.When.N,i6 a.When.Frames,c].toArray,gX d] (vb r) w O S [.blk d [sb b] 9]:=by
 refine CW 8 Tryz.func127 ?_;refine SR<|xb (yT (cs:=[sb a.Name,i6 a.When.Kind,sb a.When.Name,sb a.When.Other,i6 a.When.Op,i6 a.When.N,i6 a.When.Frames,c]) Z H) λh i H=>zB (vb false)<|RM<|SR<|zS (wJ Z)<|Ld dD H 2 0 Z Z<|Ld dD H 0 0 Z Z<|RLb e (xJ (s1:=a.Name) (s2:=b) Z Z) λf e=>zB (vb f)<|RM ?_;cases e;exact zI<|p1z ⟨Z,H.U [0]⟩
theorem Ff9w {f:List Rule}{p1c0:Str}{d:Value}{e:Nat}{r:Int}(a:Ff9 f p1c0=some r)(H:Hd O w w S [.blk e [sb p1c0] 9,dQ d f]):
  Rt 168 [d,.func (.func 127) #[] #[gX e]] (i6 r) w O S [.blk e [sb p1c0] 9]:=by
 refine CW 19 Tryz.func168 ?_;refine SR<|zB (i6 0)<|RM<|jk a H (rg [4,15]) (λx (y:Unit)=>[]) (λx y=>[]) [0] (λz a=>?_) ?_;refine SR<|zA d<|ln a (H.im 1 Z) u24 λA a=>zA (i6 0)<|RM<|zJ<|lo a H (rg [4,2,8,11]) (λx (y:Unit)=>[(8,i6 x)]) (λx y=>[]) [0,1] () (H.U [0,1]) ?_;clear H a;rintro B c _ ρ C H a;have H:=un2 H;refine SR<|eG a λD a=>RM<|SQ<|WJ a (λa=>WZ<|SQ<|zJ<|SR<|zA (i6 c)<|zB (i6 c)<|RM<|SR<|zA (.func (.func 127) #[] #[gX e])<|zA d<|zA (i6 c)<|bE a λb h a=>?_) λa=>?_;obtain⟨j,k,E,F,l,n,o,p,q⟩:=xB (H.im 1 Z) h;obtain⟨i,rfl,s⟩:=kH n;have H:=H.fzs [.at j (k+c.toNat*8) _,.sl dC i b.When.Kids] ⟨⟨o,p,q⟩,s,T1⟩;refine ix u24 mY l h<|zS (yU (yB (cs:=[sb b.Name,i6 b.When.Kind,sb b.When.Name,sb b.When.Other,i6 b.When.Op,i6 b.When.N,i6 b.When.Frames,i]) aHa Z mY Z (H.im 2 Z).2.2) Z)<|bE a λG t a=>xG Z Z (kS (fJ Tryz.func127) Z Z) (Fflw t (H.W [0] [3])) ?_;rintro _ I ⟨rfl,u⟩;have H:=un4<|H.back [0] [3] Z u;refine⟨_,Z,?_⟩;refine RM<|WJ a (λa=>SR<|zA (i6 c)<|zB (i6 c)<|RM ?_) λa=>?_;cases a;exact zI<|zN<|zH<|zH<|zN<|zH<|p1z ⟨Z,H.U [3]⟩;exact yP<|zO<|zF<|KN<|zD<|eF a λv a=>zA (i6 v)<|jn<|me a () (H.U [3,0]);exact zZ<|zQ<|zQ<|zU<|zF<|me a () (H.U [0]);rintro _ _ ρ J H a;have H:=un1 H;refine SR<|zB (i6 (-1))<|RM ?_;cases a;exact zI<|p1z ⟨Z,H.U [0]⟩
theorem Fe8w {d:List Rule}{p1c0:Str}{c:Value}{b:Nat}{r:Bool}(a:Fe8 d p1c0=some r)(H:Hd O w w S [.blk b [sb p1c0] 9,dQ c d]):
  Rt 126 [c,.func (.func 127) #[] #[gX b]] (vb r) w O S [.blk b [sb p1c0] 9]:=by
 refine CW 9 Tryz.func126 ?_;refine SR<|zB (vb false)<|RM<|SR<|zA c<|zA (.func (.func 127) #[] #[gX b])<|bE a λi e a=>cAz (fJ Tryz.func168) (Ff9w e (H.W [0] [1])) λj f=>?_;have H:=un2<|H.back [0] [1] Z f;refine wM a λh a=>zB (vb h)<|RM ?_;cases a;exact zI<|p1z ⟨Z,H.U [1]⟩
theorem Fcmw {j:Str}{b:Rules}{c:Int}{d e:Nat}{f h i:Value}{r:Bool}(a:Fcm j b c=some r)(H:Hd O w w S [.blk d [f,h,i] 26,.blk e [i6 c] 3,fU f b.Phases,dW h b.Moves,dQ i b.Rules]):
  Rt 125 [sb j,gX d,gX e] (vb r) w O S [.blk d [f,h,i] 26,.blk e [i6 c] 3]:=by
 refine CW 11 Tryz.func125 ?_;refine SR<|xb (aDa Z Z H) λt u H=>zB (vb false)<|RM<|SR<|zS (kR Z)<|Ld nI H 0 2 Z Z<|Ld fC H 1 0 Z Z<|bE a λk l a=>aDz Z Z (vC u24 mY (H.im 4 Z) Z Z l) ?_;rintro n o;have H:=H.fz (.sl dA n k) o;refine zS (bJ Z)<|bE a λp q a=>cAz (fJ Tryz.func126) (Fe8w q (H.W [5] [6])) λv s=>?_;have H:=un7<|H.back [5] [6] Z s;refine zB (vb p)<|RM ?_;cases a;exact zI<|p1z ⟨Z,H.U [0,1]⟩
theorem Fdbw (b:Cond)(c:Rules)(c1f1:Int)(f:Value)(d:Nat)(h i j:Value)(k e:Nat)(r:Int)(a:Fdb b c c1f1=some r)(H:Hd O w w S [.blk d [h,i,j] 26,.blk e [i6 c1f1] 3,.blk k [.func (.func 125) #[] #[gX d,gX e]] 155,dG f b.Kids,fU h c.Phases,dW i c.Moves,dQ j c.Rules]):
  Rt 128 [.agg [i6 b.Kind,sb b.Name,sb b.Other,i6 b.Op,i6 b.N,i6 b.Frames,f].toArray,gX d,gX k] (i6 r) w O S [.blk d [h,i,j] 26,.blk e [i6 c1f1] 3,.blk k [.func (.func 125) #[] #[gX d,gX e]] 155]:=by
 refine CW 28 Tryz.func128 ?_;refine SR<|xb (yT (cs:=[i6 b.Kind,sb b.Name,sb b.Other,i6 b.Op,i6 b.N,i6 b.Frames,f]) Z H) λn y H=>zB (i6 0)<|RM<|SQ<|bE a λo a p=>jo H (rg [5,23]) (λ(g:Unit)=>[(27,vb o)]) (λg=>[]) [0,4,5,6,1,2] ?_ ?_;refine zD<|zS (aO Z)<|Ld fC H 7 0 Z Z<|fH a λz a=>bE a λq a s=>xR 8 [8,9,10,11,12,13,14,15] [(15,vb q)] (λwl=>Hd O w wl S [.blk d [h,i,j] 26,.blk e [i6 c1f1] 3,.blk k [.func (.func 125) #[] #[gX d,gX e]] 155,dG f b.Kids,fU h c.Phases,dW i c.Moves,dQ j c.Rules,.blk n [i6 b.Kind,sb b.Name,sb b.Other,i6 b.Op,i6 b.N,i6 b.Frames,f] 84]) ?_ ?_;refine RJ a (λa=>zS (kG Z)<|Ld aY H 0 0 Z Z<|zS (kW Z)<|Ld dD H 7 1 Z Z<|bE a λA t a=>RC en75 (Fbnw t (H.W [] [4])) H λB H=>aI a λu a=>pt (vb u) ?_) λa=>?_;cases a;exact jn<|meet ⟨(yH Z yV),H.U (rg [0,8])⟩;refine zL<|zL<|zL<|zL<|zL<|zL<|pf (vb false) ?_;cases a;exact jn<|meet ⟨(yH Z yV),H.U (rg [0,8])⟩;rintro ρ C H;have a:=s;refine RJ a (λa=>zL<|zL<|zL<|zL<|zL<|zL<|zL<|zL<|zL<|zL<|pt (vb true) ?_) λa=>?_;cases a;exact jn<|mt () (H.U [0,4,5,6,1,2]);refine zS (aO Z)<|Ld fC H 7 0 Z Z<|fH a λD a=>RJ a (λa=>Ld one155 H 2 0 Z Z<|zS (kW Z)<|Ld dD H 7 1 Z Z<|bE a λE v a=>xG Z Z (kS en125 Z Z) (Fcmw v (H.W [0,1] [4,5,6])) ?_) λa=>?_;rintro _ F ⟨rfl,x⟩;have H:=un8<|H.back [0,1] [4,5,6] Z x;refine⟨_,Z,?_⟩;refine aI a λl a=>pt (vb l)<|pf (vb l) ?_
 cases a;exact jn<|mt () (H.U [6,2,3,4,7,0]);refine zL<|zL<|zL<|zL<|zL<|pf (vb false)<|pf (vb false) ?_;cases a;exact jn<|mt () (H.U [0,4,5,6,1,2]);rintro _ ρ G H;have H:=un6 H;have a:=p;refine WJ a (λa=>SR<|zB (i6 4)<|RM ?_) λa=>?_;cases a;exact zI<|zH<|p1z ⟨Z,H.U [0,4,5]⟩;refine WZ<|SR<|zB (i6 0)<|RM ?_;cases a;exact zI<|p1z ⟨Z,H.U [0,4,5]⟩
abbrev Fif (f:Cond->Rules->Int->Option Int):Prop:= ∀(p0:Cond) (p1c0:Rules) (p1c1f1:Int) (v1:Value) (b3:Nat) (v4:Value) (v5:Value) (v6:Value) (b11:Nat) (b13:Nat) (r:Int) (_:f p0 p1c0 p1c1f1=some r) (O S:List Nat) (w:World) (_:Hd O w w S [.blk b3 [v4,v5,v6] 26,.blk b13 [i6 p1c1f1] 3,.blk b11 [.func (.func 125) #[] #[gX b3,gX b13]] 155,dG v1 p0.Kids,fU v4 p1c0.Phases,dW v5 p1c0.Moves,dQ v6 p1c0.Rules]),
  Cl 123 [.agg [i6 p0.Kind,sb p0.Name,sb p0.Other,i6 p0.Op,i6 p0.N,i6 p0.Frames,v1].toArray,.func (.func 128) #[] #[gX b3,gX b11]] w λe w'=>e= .returned (i6 r)/\Hd O w w' S [.blk b3 [v4,v5,v6] 26,.blk b13 [i6 p1c1f1] 3,.blk b11 [.func (.func 125) #[] #[gX b3,gX b13]] 155]
end Go.Proofs.YthfeackbhgmfbaaGreatDoor.L
