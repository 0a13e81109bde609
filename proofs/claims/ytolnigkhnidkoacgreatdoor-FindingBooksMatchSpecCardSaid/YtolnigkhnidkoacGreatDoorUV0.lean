/- Walks that the claim stands on; no condition beyond those stated. -/
import Derived.Test.YtolnigkhnidkoacGreatDoorUP
import Derived.Test.YtolnigkhnidkoacGreatDoorXVq
import Derived.Test.YtolnigkhnidkoacGreatDoorShK
namespace Go.Proofs.YtolnigkhnidkoacGreatDoor.L
open Go.RowKit Go.OB Go.Lf
set_option maxRecDepth 100000
set_option maxHeartbeats 4000000
abbrev vb:=Value.bool
theorem T1:True:=trivial
theorem Z {α:Sort _}{a:α}:a=a:=rfl
variable {O S:List Nat}{w:World}
abbrev En (f:FuncId):Prop:=Go.OB.Enters Tryz.prog f
theorem RN {P:Program}{N:Nat}{ops:Array Oper}{y:Code}{K:Env->World->Prop}{Q Q':Exit->Env->World->Prop}{ρ:Env}{w:World}(h: ∀ρ w,WP P N y Q ρ w->K ρ w)(n:WP P N y Q ρ w):RL P N ops (nM K Q') [] ρ w:=yN (zG (h _ _ n))
theorem CW {P:Program}{f:FuncId}{fn:Func}{c:Code}{args:List Value}{w:World}{R:Ending->World->Prop}(N:Nat)(hf:P.funcs[f]? =some fn)(h:WP P N c (aAn P fn.results R) (aMn args) w)(hb:fn.body=some c:=by exact rfl)(hN:fn.ntmps=N:=by exact rfl)(hl:Nat.ble args.length N=true:=by exact rfl):Calls P f args.toArray w R:=sQ N hf hb hN hl h
theorem mt {W:List Nat}{ρ ρ':Env}{G:Type}{S:G->List (Nat×Value)}{B:G->Prop}(g:G)(h:B g)(hs:Sl ρ' (S g):=by repeat (first |exact yG|refine yB rfl ?_))(hf:Fr W ρ ρ':=by repeat' (first |with_reducible exact aGf|refine aPm rfl ?_|refine aJn rfl rfl ?_)):Fr W ρ ρ'/\ ∃g,Sl ρ' (S g)/\B g:=⟨hf,g,hs,h⟩
theorem ml {W:List Nat}{ρ ρ':Env}{G:Type}{S:G->List (Nat×Value)}{B C:G->Prop}{μ:G->Nat}{n:Nat}(g:G)(h:B g)(c:C g)(hs:Sl ρ' (S g):=by repeat (first |exact yG|refine yB rfl ?_))(hn:μ g<n:=by exact Nat.lt_succ_self _)(hf:Fr W ρ ρ':=by repeat' (first |with_reducible exact aGf|refine aPm rfl ?_|refine aJn rfl rfl ?_)):Fr W ρ ρ'/\ ∃g,Sl ρ' (S g)/\(B g/\C g)/\μ g<n:=⟨hf,g,hs,⟨h,c⟩,hn⟩
def rg:List Nat->List Nat
 |a::n::l=>List.range' a n++rg l
 |_=>[]
section
variable {P:Program}{N:Nat}{ops:Array Oper}{Q Q':Exit->Env->World->Prop}{rest:List Oper}{ρ:Env}{w:World}{d:Nat}{op:Op}{ty:TypeId}{pos:String}{af:Array Edge}{gd:Option (Nat×Bool)}
theorem RLb {β:Type}{b:Bool}{k:Bool->Option β}{r:β}(a:gG b k=some r)(hd:Do P ⟨some d,op,ty,pos,af,gd⟩ ρ w (vb b) w)(n: ∀x,k x=some r->RL P N ops Q rest (upd ρ d (vb x)) w)(hw:fO N ops ρ ⟨some d,op,ty,pos,af,gd⟩=true:=by exact rfl)(c:Nat.blt d N=true:=by exact rfl):RL P N ops Q (⟨some d,op,ty,pos,af,gd⟩::rest) ρ w:=bY hw c hd (n b a)
theorem RLi {β:Type}{b:Int}{kk:IntKind}{k:Int->Option β}{r:β}(a:gG b k=some r)(hd:Do P ⟨some d,op,ty,pos,af,gd⟩ ρ w (.int kk b) w)(n: ∀x,k x=some r->RL P N ops Q rest (upd ρ d (.int kk x)) w)(hw:fO N ops ρ ⟨some d,op,ty,pos,af,gd⟩=true:=by exact rfl)(c:Nat.blt d N=true:=by exact rfl):RL P N ops Q (⟨some d,op,ty,pos,af,gd⟩::rest) ρ w:=bY hw c hd (n b a)
theorem WI {β:Type}{b:Bool}{x y:Option β}{r:β}{c:Operand}{s t:Code}(a:gI b x y=some r)(hc:ev ρ c=vb b)(ht:x=some r->WP P N s Q ρ w)(hf:y=some r->WP P N t Q ρ w):WP P N (.cond c s t) Q ρ w:=aEu hc (λc=>ht (kM c a)) (λc=>hf (kL c a))
theorem RI {β:Type}{b:Bool}{x y:Option β}{r:β}{z:Operand}(a:gI b x y=some r)(hx:ev ρ z=vb b)(ht:x=some r->RL P N ops Q rest (upd ρ d (vb true)) w)(hf:y=some r->RL P N ops Q rest (upd ρ d (vb false)) w)(hw:fO N ops ρ ⟨some d,.move z,ty,pos,af,gd⟩=true:=by exact rfl)(e:Nat.blt d N=true:=by exact rfl):RL P N ops Q (⟨some d,.move z,ty,pos,af,gd⟩::rest) ρ w:=RL_splitb hw e hx (λc=>ht (kM c a)) (λc=>hf (kL c a))
theorem RC {f:FuncId}{args:Array Operand}{at_:Array TypeId}{vs:List Value}{v:Value}{O c S:List Nat}{b:World}{l:List Th}(he:Go.OB.Enters P f)(hc:Calls P f vs.toArray w λe a=>e= .returned v/\Hd c w a [] [])(H:Hd O b w S l)(k: ∀a,Hd O b a S l->RL P N ops Q rest (upd ρ d v) a)(ha:args.toList.map (ev ρ)=vs:=by exact rfl)(hw:fO N ops ρ ⟨some d,.call {callee:= .value (.func f),args:=args,argTypes:=at_},ty,pos,af,gd⟩=true:=by exact rfl)(g:Nat.blt d N=true:=by exact rfl):RL P N ops Q (⟨some d,.call {callee:= .value (.func f),args:=args,argTypes:=at_},ty,pos,af,gd⟩::rest) ρ w:=by
 refine xP hw g (yK he ha) hc ?_;rintro _ a ⟨rfl,G⟩;exact⟨_,rfl,k _ (H.step G.only)⟩
end
section
variable {P:Program}{N:Nat}{ops:Array Oper}{Q Q':Exit->Env->World->Prop}{rest:List Oper}{ρ:Env}{w:World}{d:Nat}{t u ty:TypeId}{x y:Operand}{pos:String}{af:Array Edge}{g:Option (Nat×Bool)}
def KK (P:Program)(N:Nat)(y:Code)(Q:Exit->Env->World->Prop):Env->World->Prop:=WP P N y Q
theorem SQ {x y:Code}(h:WP P N x (nM (KK P N y Q) Q) ρ w):WP P N (.seq x y) Q ρ w:=aUt h λ_ _ h=>h
theorem SR {id:Nat}{l:List Oper}{y:Code}(h:RL P N l.toArray (nM (KK P N y Q) Q) l ρ w):WP P N (.seq (.region id l.toArray false) y) Q ρ w:=SQ (zD h)
theorem RM {y:Code}(n:WP P N y Q ρ w):RL P N ops (nM (KK P N y Q) Q') [] ρ w:=yN (zG n)
theorem WZ {y:Code}(n:WP P N y Q ρ w):WP P N .skip (nM (KK P N y Q) Q') ρ w:=yI (zG n)
theorem KN {y:Code}(n:WP P N y Q ρ w):KK P N y Q ρ w:=n
theorem jn {K:Env->World->Prop}(n:K ρ w):RL P N ops (nM K Q') [] ρ w:=yN (zG n)
theorem js {K:Env->World->Prop}(n:K ρ w):WP P N .skip (nM K Q') ρ w:=yI (zG n)
theorem fG {a b:Int}{kk:IntKind}{β:Type}{k:Bool->Option β}{r:β}(c:gG (decide (a<b)) k=some r)(n: ∀x,k x=some r->RL P N ops Q rest (upd ρ d (vb x)) w)(hx:ev ρ x= .int kk a:=by exact rfl)(hy:ev ρ y= .int kk b:=by exact rfl)(hw:fO N ops ρ ⟨some d,.binOp .lss t x y u,ty,pos,af,g⟩=true:=by exact rfl)(e:Nat.blt d N=true:=by exact rfl):RL P N ops Q (⟨some d,.binOp .lss t x y u,ty,pos,af,g⟩::rest) ρ w:=RLb c (aFd hx hy) n hw e
theorem uB {a b:Int}{kk:IntKind}{β:Type}{k:Bool->Option β}{r:β}(c:gG (decide (a<=b)) k=some r)(n: ∀x,k x=some r->RL P N ops Q rest (upd ρ d (vb x)) w)(hx:ev ρ x= .int kk a:=by exact rfl)(hy:ev ρ y= .int kk b:=by exact rfl)(hw:fO N ops ρ ⟨some d,.binOp .leq t x y u,ty,pos,af,g⟩=true:=by exact rfl)(e:Nat.blt d N=true:=by exact rfl):RL P N ops Q (⟨some d,.binOp .leq t x y u,ty,pos,af,g⟩::rest) ρ w:=RLb c (aCp hx hy) n hw e
theorem dY {a b:Int}{kk:IntKind}{β:Type}{k:Bool->Option β}{r:β}(c:gG (decide (b<a)) k=some r)(n: ∀x,k x=some r->RL P N ops Q rest (upd ρ d (vb x)) w)(hx:ev ρ x= .int kk a:=by exact rfl)(hy:ev ρ y= .int kk b:=by exact rfl)(hw:fO N ops ρ ⟨some d,.binOp .gtr t x y u,ty,pos,af,g⟩=true:=by exact rfl)(e:Nat.blt d N=true:=by exact rfl):RL P N ops Q (⟨some d,.binOp .gtr t x y u,ty,pos,af,g⟩::rest) ρ w:=RLb c (aAd hx hy) n hw e
theorem jK {a b:Int}{kk:IntKind}{β:Type}{k:Bool->Option β}{r:β}(c:gG (decide (b<=a)) k=some r)(n: ∀x,k x=some r->RL P N ops Q rest (upd ρ d (vb x)) w)(hx:ev ρ x= .int kk a:=by exact rfl)(hy:ev ρ y= .int kk b:=by exact rfl)(hw:fO N ops ρ ⟨some d,.binOp .geq t x y u,ty,pos,af,g⟩=true:=by exact rfl)(e:Nat.blt d N=true:=by exact rfl):RL P N ops Q (⟨some d,.binOp .geq t x y u,ty,pos,af,g⟩::rest) ρ w:=RLb c (Do_geq hx hy) n hw e
theorem eG {a b:Int}{kk:IntKind}{β:Type}{k:Bool->Option β}{r:β}(c:gG (decide (a=b)) k=some r)(n: ∀x,k x=some r->RL P N ops Q rest (upd ρ d (vb x)) w)(hx:ev ρ x= .int kk a:=by exact rfl)(hy:ev ρ y= .int kk b:=by exact rfl)(hw:fO N ops ρ ⟨some d,.binOp .eql t x y u,ty,pos,af,g⟩=true:=by exact rfl)(e:Nat.blt d N=true:=by exact rfl):RL P N ops Q (⟨some d,.binOp .eql t x y u,ty,pos,af,g⟩::rest) ρ w:=RLb c (aEv hx hy) n hw e
theorem dK {a b:Int}{kk:IntKind}{β:Type}{k:Bool->Option β}{r:β}(c:gG (decide (a≠b)) k=some r)(n: ∀x,k x=some r->RL P N ops Q rest (upd ρ d (vb x)) w)(hx:ev ρ x= .int kk a:=by exact rfl)(hy:ev ρ y= .int kk b:=by exact rfl)(hw:fO N ops ρ ⟨some d,.binOp .neq t x y u,ty,pos,af,g⟩=true:=by exact rfl)(e:Nat.blt d N=true:=by exact rfl):RL P N ops Q (⟨some d,.binOp .neq t x y u,ty,pos,af,g⟩::rest) ρ w:=RLb c (aEq hx hy) n hw e
theorem fE {a b:Int}{kk:IntKind}{β:Type}{k:Int->Option β}{r:β}(c:gG (kk.wrap (a+b)) k=some r)(n: ∀x,k x=some r->RL P N ops Q rest (upd ρ d (.int kk x)) w)(hx:ev ρ x= .int kk a:=by exact rfl)(hy:ev ρ y= .int kk b:=by exact rfl)(hw:fO N ops ρ ⟨some d,.binOp .add t x y u,ty,pos,af,g⟩=true:=by exact rfl)(e:Nat.blt d N=true:=by exact rfl):RL P N ops Q (⟨some d,.binOp .add t x y u,ty,pos,af,g⟩::rest) ρ w:=RLi c (aBs hx hy rfl) n hw e
theorem uN {a b:Int}{kk:IntKind}{β:Type}{k:Int->Option β}{r:β}(c:gG (kk.wrap (a-b)) k=some r)(n: ∀x,k x=some r->RL P N ops Q rest (upd ρ d (.int kk x)) w)(hx:ev ρ x= .int kk a:=by exact rfl)(hy:ev ρ y= .int kk b:=by exact rfl)(hw:fO N ops ρ ⟨some d,.binOp .sub t x y u,ty,pos,af,g⟩=true:=by exact rfl)(e:Nat.blt d N=true:=by exact rfl):RL P N ops Q (⟨some d,.binOp .sub t x y u,ty,pos,af,g⟩::rest) ρ w:=RLi c (jL hx hy rfl) n hw e
theorem vU {a b:Int}{kk:IntKind}{β:Type}{k:Int->Option β}{r:β}(c:gG (kk.wrap (a*b)) k=some r)(n: ∀x,k x=some r->RL P N ops Q rest (upd ρ d (.int kk x)) w)(hx:ev ρ x= .int kk a:=by exact rfl)(hy:ev ρ y= .int kk b:=by exact rfl)(hw:fO N ops ρ ⟨some d,.binOp .mul t x y u,ty,pos,af,g⟩=true:=by exact rfl)(e:Nat.blt d N=true:=by exact rfl):RL P N ops Q (⟨some d,.binOp .mul t x y u,ty,pos,af,g⟩::rest) ρ w:=RLi c (aCi hx hy rfl) n hw e
theorem sJ {x y:Code}{O S:List Nat}{a b:World}{T:List Th}(_:Hd O a b S T)(W:List Nat)(l:List (Nat×Value))(h:WP P N x (nM (λρ' c=>Fr W ρ ρ'/\ ∃g:Unit,Sl ρ' ((λ_=>l) g)/\(λ_ wl=>Hd O a wl S T) g c) Q) ρ w)(k: ∀(_:Unit) ρ₁ w,Hd O a w S T->WP P N y Q (over ρ ρ₁ W l) w):WP P N (.seq x y) Q ρ w:=aIu W (λ_:Unit=>l) (λ_ wl=>Hd O a wl S T) h k
theorem bE {α β:Type}{p:Prop}{x:Option α}{f:α->Option β}{r:β}(h:gB x f=some r)(k: ∀y,x=some y->f y=some r->p):p:=(yC h).elim λy q=>k y q.1 q.2
theorem lE {α β:Type}{p:Prop}{x:α}{f:α->Option β}{r:β}(h:gG x f=some r)(k: ∀y,x=y->f y=some r->p):p:=(aDi h).elim λy q=>k y q.1 q.2
theorem XQ {I:World->Prop}{κ:List MxM.Kd}{K:MxM.Mm->Env->World->Prop}{k:Nat}{M:MxM.Mm}{σ:List Nat}{v:Value}{op:Op}(h: ∀{a},Do P ⟨some d,op,ty,pos,af,g⟩ ρ a v a)(n:MxM.XL P I N ops κ K M σ rest (upd ρ d v) w)(hk:MxM.kdOf κ k= .pure:=by exact rfl)(hw:fO N ops ρ ⟨some d,op,ty,pos,af,g⟩=true:=by exact rfl)(b:Nat.blt d N=true:=by exact rfl):MxM.XL P I N ops κ K M (k::σ) (⟨some d,op,ty,pos,af,g⟩::rest) ρ w:=MxM.XL_pure hk hw b (λ_ _=>h) n
theorem eQ {b:Bool}{β:Type}{k:Bool->Option β}{r:β}(a:gG (!b) k=some r)(n: ∀x,k x=some r->RL P N ops Q rest (upd ρ d (vb x)) w)(hx:ev ρ x=vb b:=by exact rfl)(hw:fO N ops ρ ⟨some d,.unOp .not t x,ty,pos,af,g⟩=true:=by exact rfl)(c:Nat.blt d N=true:=by exact rfl):RL P N ops Q (⟨some d,.unOp .not t x,ty,pos,af,g⟩::rest) ρ w:=RLb a (tX hx) n hw c
theorem pt (v:Value){z:Operand}(n:RL P N ops Q rest (upd ρ d v) w)(hx:ev ρ x=vb true:=by exact rfl)(hy:ev ρ y=v:=by exact rfl)(hw:fO N ops ρ ⟨some d,.pick x y z,ty,pos,af,g⟩=true:=by exact rfl)(a:Nat.blt d N=true:=by exact rfl):RL P N ops Q (⟨some d,.pick x y z,ty,pos,af,g⟩::rest) ρ w:=bY hw a (wE hx hy) n
theorem pf (v:Value){z:Operand}(n:RL P N ops Q rest (upd ρ d v) w)(hx:ev ρ x=vb false:=by exact rfl)(hz:ev ρ z=v:=by exact rfl)(hw:fO N ops ρ ⟨some d,.pick x y z,ty,pos,af,g⟩=true:=by exact rfl)(a:Nat.blt d N=true:=by exact rfl):RL P N ops Q (⟨some d,.pick x y z,ty,pos,af,g⟩::rest) ρ w:=bY hw a (xQ hx hz) n
theorem ix {α:Type}{L:List α}{i:Int}{z:α}{e:TypeId}{b o s c:Nat}{kk:IntKind}(hu:P.underlying t=some (.slice e))(hs:Sz P e s)(hx:ev ρ x= .slice (some ⟨b,o,none⟩) L.length c)(h:at' L i=some z)(n:RL P N ops Q rest (upd ρ d (.pointer (some ⟨b,o+i.toNat*s,none⟩))) w)(hy:ev ρ y= .int kk i:=by exact rfl)(hw:fO N ops ρ ⟨some d,.indexAddr t x y,ty,pos,af,g⟩=true:=by exact rfl)(a:Nat.blt d N=true:=by exact rfl):RL P N ops Q (⟨some d,.indexAddr t x y,ty,pos,af,g⟩::rest) ρ w:=bY hw a (dG hu hs hx hy (yP h).1 (yP h).2.1 rfl rfl) n
theorem lb {O S:List Nat}{a:World}{l:List Th}{b T n:Nat}{cs:List Value}(H:Hd O a w S l)(i:Nat)(h:l[i]? =some (.blk b cs T))(c:Agg P t)(hs:Sz P t n)(k:RL P N ops Q rest (upd ρ d (.agg cs.toArray)) w)(hx:ev ρ x= .pointer (some ⟨b,0,none⟩):=by exact rfl)(hl:cs.length=n:=by exact rfl)(hw:fO N ops ρ ⟨some d,.load t x,ty,pos,af,g⟩=true:=by exact rfl)(e:Nat.blt d N=true:=by exact rfl):RL P N ops Q (⟨some d,.load t x,ty,pos,af,g⟩::rest) ρ w:=bY hw e (zW c hx hs hl (Blk.cells (H.V h))) k
theorem WJ {β:Type}{b:Bool}{x y:Option β}{r:β}{c:Operand}{s t:Code}(a:gI b x y=some r)(ht:x=some r->WP P N s Q ρ w)(hf:y=some r->WP P N t Q ρ w)(hc:ev ρ c=vb b:=by exact rfl):WP P N (.cond c s t) Q ρ w:=WI a hc ht hf
theorem RJ {β:Type}{b:Bool}{x y:Option β}{r:β}{z:Operand}(a:gI b x y=some r)(ht:x=some r->RL P N ops Q rest (upd ρ d (vb true)) w)(hf:y=some r->RL P N ops Q rest (upd ρ d (vb false)) w)(hx:ev ρ z=vb b:=by exact rfl)(hw:fO N ops ρ ⟨some d,.move z,ty,pos,af,g⟩=true:=by exact rfl)(c:Nat.blt d N=true:=by exact rfl):RL P N ops Q (⟨some d,.move z,ty,pos,af,g⟩::rest) ρ w:=RI a hx ht hf hw c
end
abbrev Sm {O S:List Nat}{v w:World}{l:List Th}(_:Hd O v w S l)(w':World)(l':List Th):Prop:=Hd O v w' S l'
section
variable {P:Program}{N:Nat}{Q:Exit->Env->World->Prop}{ρ:Env}{w wo:World}{O S:List Nat}{T:List Th}{X Y β:Type}{r:β}{c x y:Code}
abbrev pj (J:List Nat)(t T:List Th):=Go.Lf.pick J (t++T)
theorem jo (_:Hd O wo w S T)(W:List Nat)(l:Y->List (Nat×Value))(t:Y->List Th)(J:List Nat)(h:WP P N x (nM (λρ' a=>Fr W ρ ρ'/\ ∃z:Y,Sl ρ' (l z)/\Hd O wo a S (pj J (t z) T)) Q) ρ w)(k: ∀z ρ₁ w,Hd O wo w S (pj J (t z) T)->WP P N y Q (over ρ ρ₁ W (l z)) w):WP P N (.seq x y) Q ρ w:=aIu W l (λz wl=>Hd O wo wl S (pj J (t z) T)) h k
theorem jk {b:X->Option β}{m:(X->Option β)->Option β}(a:fV b m=some r)(_:Hd O wo w S T)(W:List Nat)(l:X->Y->List (Nat×Value))(t:X->Y->List Th)(J:List Nat)(h: ∀k:X->Option β,m k=some r->WP P N x (nM (λρ' c=>Fr W ρ ρ'/\ ∃u v,Sl ρ' (l u v)/\Hd O wo c S (pj J (t u v) T)/\k u=some r) Q) ρ w)(k: ∀u v ρ₁ w,Hd O wo w S (pj J (t u v) T)->b u=some r->WP P N y Q (over ρ ρ₁ W (l u v)) w):WP P N (.seq x y) Q ρ w:=by
 refine aIu (G:=X×Y) W (λg=>l g.1 g.2) (λg wl=>Hd O wo wl S (pj J (t g.1 g.2) T)/\b g.1=some r) ((h b a).mono ?_) (λg ρ₁ w hg=>k g.1 g.2 ρ₁ w hg.1 hg.2);intro e ρ' c hq
 cases e<;>first |(obtain⟨d,u,v,f,i,j⟩:=hq;exact⟨d,(u,v),f,i,j⟩)|exact hq
theorem lo {b:(X->Option β)->X->Option β}{d:X}(a:gZ b d=some r)(_:Hd O wo w S T)(W:List Nat)(l:X->Y->List (Nat×Value))(t:X->Y->List Th)(J:List Nat)(f:Y)(j:Hd O wo w S (pj J (t d f) T))(n: ∀k u v ρ₁ w,Hd O wo w S (pj J (t u v) T)->b k u=some r->WP P N c (nM (λρ' i=>Fr W ρ ρ'/\ ∃u v,Sl ρ' (l u v)/\Hd O wo i S (pj J (t u v) T)/\k u=some r) Q) (over ρ ρ₁ W (l u v)) w)(hs:Sl ρ (l d f):=by repeat (first |exact yG|refine yB rfl ?_)):WP P N (.loop c) Q ρ w:=by
 obtain⟨B,m,rfl,o⟩:=aUm a;refine aTd (G:=Nat×X×Y) W (λg=>l g.2.1 g.2.2) (λg wl=>Hd O wo wl S (pj J (t g.2.1 g.2.2) T)/\aX B g.1 g.2.1=some r) (λg=>g.1) (m,d,f) hs ⟨j,o⟩ ?_;rintro⟨m,u,v⟩ ρ₁ w ⟨p,h⟩;obtain⟨m,rfl,h⟩:=loopN_pos h;refine(n (aX B m) u v ρ₁ w p h).mono ?_;intro e ρ' i hq
 cases e<;>first |(obtain⟨q,u',v',s,x,y⟩:=hq;exact⟨q,(m,u',v'),s,⟨x,y⟩,Nat.lt_succ_self _⟩)|exact hq
theorem me {W:List Nat}{ρ ρ':Env}{k:X->Option β}{l:X->Y->List (Nat×Value)}{B:X->Y->Prop}{u:X}(a:k u=some r)(y:Y)(h:B u y)(hs:Sl ρ' (l u y):=by repeat (first |exact yG|refine yB rfl ?_))(hf:Fr W ρ ρ':=by repeat' (first |with_reducible exact aGf|refine aPm rfl ?_|refine aJn rfl rfl ?_)):Fr W ρ ρ'/\ ∃u v,Sl ρ' (l u v)/\B u v/\k u=some r:=⟨hf,u,y,hs,h,a⟩
end
section
variable {P:Program}{N:Nat}{ops:Array Oper}{Q:Exit->Env->World->Prop}{rest:List Oper}{ρ:Env}{w wo:World}{d dd:Nat}{op:Op}{t e tt uu ty tyy:TypeId}{x y xx:Operand}{pos poo:String}{af aff:Array Edge}{g gg:Option (Nat×Bool)}{f:FuncId}{args:Array Operand}{at_:Array TypeId}{vs:List Value}{O S:List Nat}{l:List Th}{α β A B C D:Type}{r:β}{v:Value}
theorem xu {R:World->Prop}(h: ∃a,DoU P ⟨none,op,ty,pos,af,g⟩ ρ w a/\R a)(k: ∀a,R a->RL P N ops Q rest ρ a)(hw:fO N ops ρ ⟨none,op,ty,pos,af,g⟩=true:=by exact rfl):RL P N ops Q (⟨none,op,ty,pos,af,g⟩::rest) ρ w:=RL_exU hw h k
theorem xv {R:Value->World->Prop}(h: ∃v a,Do P ⟨some d,op,ty,pos,af,g⟩ ρ w v a/\R v a)(k: ∀v a,R v a->RL P N ops Q rest (upd ρ d v) a)(hw:fO N ops ρ ⟨some d,op,ty,pos,af,g⟩=true:=by exact rfl)(hd:Nat.blt d N=true:=by exact rfl):RL P N ops Q (⟨some d,op,ty,pos,af,g⟩::rest) ρ w:=nO hw hd h k
theorem xb {R:Nat->World->Prop}(h: ∃v a,Do P ⟨some d,op,ty,pos,af,g⟩ ρ w v a/\ ∃b,v= .pointer (some ⟨b,0,none⟩)/\R b a)(k: ∀b a,R b a->RL P N ops Q rest (upd ρ d (.pointer (some ⟨b,0,none⟩))) a)(hw:fO N ops ρ ⟨some d,op,ty,pos,af,g⟩=true:=by exact rfl)(hd:Nat.blt d N=true:=by exact rfl):RL P N ops Q (⟨some d,op,ty,pos,af,g⟩::rest) ρ w:=nO hw hd h λ_ _ ⟨b,e,q⟩=>e▸k b _ q
theorem ln {L:List α}{rr:Rp α}{F:Nat->Prop}{k:Int->Option β}{b:World}(f:gG (L.length:Int) k=some r)(h:SlF rr F b v L)(hu:P.underlying t=some (.slice e))(n: ∀x,k x=some r->RL P N ops Q rest (upd ρ d (.int .i64 x)) w)(hx:ev ρ x=v:=by exact rfl)(hw:fO N ops ρ ⟨some d,.call {callee:= .builtin .len,args:= #[x],argTypes:= #[t]},ty,pos,af,g⟩=true:=by exact rfl)(i:Nat.blt d N=true:=by exact rfl):RL P N ops Q (⟨some d,.call {callee:= .builtin .len,args:= #[x],argTypes:= #[t]},ty,pos,af,g⟩::rest) ρ w:=by
 obtain⟨a,c,q⟩:=SlF.len h;exact bY hw i (dO hu (hx.trans q)) (n _ f)
theorem rea {L:List α}{a:α}{rr:Rp α}{j:Int}{kk:IntKind}(H:Hd O wo w S l)(k:SlF rr (frees O l) w v L)(z:Value)(h:at' L j=some a)(hu:P.underlying t=some (.slice e))(hs:Sz P e 1)(m:aBh P tt)(n: ∀b o,Hd O wo w S (l++[.fz (.at b (o+j.toNat*1) [z])])->RL P N ops Q rest (upd (upd ρ d (.pointer (some ⟨b,o+j.toNat*1,none⟩))) dd z) w)(hc: ∀F w cs,rr.rd F w cs a->cs=[z]:=by exact λ_ _ _ h=>h)(p:rr.sz=1:=by exact rfl)(hx:ev ρ x=v:=by exact rfl)(hy:ev ρ y= .int kk j:=by exact rfl)(r: ∀q,ev (upd ρ d q) xx=q:=by exact λ_=>rfl)(hw:fO N ops ρ ⟨some d,.indexAddr t x y,ty,pos,af,g⟩=true:=by exact rfl)(hd:Nat.blt d N=true:=by exact rfl)(hv: ∀q,fO N ops (upd ρ d q) ⟨some dd,.load tt xx,tyy,poo,aff,gg⟩=true:=by exact λ_=>rfl)(s:Nat.blt dd N=true:=by exact rfl):RL P N ops Q (⟨some d,.indexAddr t x y,ty,pos,af,g⟩::⟨some dd,.load tt xx,tyy,poo,aff,gg⟩::rest) ρ w:=by
 obtain⟨b,o,c,cs,q,u,A,B,f⟩:=yQ k h;obtain rfl:=hc _ _ _ u;rw [p]at f;refine bY hw hd (dG hu hs (hx.trans q) hy (yP h).1 (yP h).2.1 rfl rfl) (bY (hv _) s (yL m (r _) (Cells.get f (i:=0) rfl)) ?_);exact n b o (H.fz (.at b (o+j.toNat*1) [z]) ⟨A,B,f⟩)
theorem cAz {V:Value}{R:World->Prop}(he:Go.OB.Enters P f)(hc:Calls P f vs.toArray w λe a=>e= .returned V/\R a)(n: ∀a,R a->RL P N ops Q rest (upd ρ d V) a)(ha:args.toList.map (ev ρ)=vs:=by exact rfl)(hw:fO N ops ρ ⟨some d,.call {callee:= .value (.func f),args:=args,argTypes:=at_},ty,pos,af,g⟩=true:=by exact rfl)(b:Nat.blt d N=true:=by exact rfl):RL P N ops Q (⟨some d,.call {callee:= .value (.func f),args:=args,argTypes:=at_},ty,pos,af,g⟩::rest) ρ w:=xP hw b (yK he ha) hc λ_ _ ⟨e,q⟩=>⟨_,e,n _ q⟩
theorem cAa {V:A->Value}{R:A->World->Prop}(he:Go.OB.Enters P f)(hc:Calls P f vs.toArray w λe b=> ∃a,e= .returned (V a)/\R a b)(n: ∀a b,R a b->RL P N ops Q rest (upd ρ d (V a)) b)(ha:args.toList.map (ev ρ)=vs:=by exact rfl)(hw:fO N ops ρ ⟨some d,.call {callee:= .value (.func f),args:=args,argTypes:=at_},ty,pos,af,g⟩=true:=by exact rfl)(c:Nat.blt d N=true:=by exact rfl):RL P N ops Q (⟨some d,.call {callee:= .value (.func f),args:=args,argTypes:=at_},ty,pos,af,g⟩::rest) ρ w:=xP hw c (yK he ha) hc λ_ _ ⟨a,e,q⟩=>⟨_,e,n a _ q⟩
theorem cAb {V:A->B->Value}{R:A->B->World->Prop}(he:Go.OB.Enters P f)(hc:Calls P f vs.toArray w λe c=> ∃a b,e= .returned (V a b)/\R a b c)(n: ∀a b c,R a b c->RL P N ops Q rest (upd ρ d (V a b)) c)(ha:args.toList.map (ev ρ)=vs:=by exact rfl)(hw:fO N ops ρ ⟨some d,.call {callee:= .value (.func f),args:=args,argTypes:=at_},ty,pos,af,g⟩=true:=by exact rfl)(h:Nat.blt d N=true:=by exact rfl):RL P N ops Q (⟨some d,.call {callee:= .value (.func f),args:=args,argTypes:=at_},ty,pos,af,g⟩::rest) ρ w:=xP hw h (yK he ha) hc λ_ _ ⟨a,b,e,q⟩=>⟨_,e,n a b _ q⟩
theorem cAc {V:A->B->C->Value}{R:A->B->C->World->Prop}(he:Go.OB.Enters P f)(hc:Calls P f vs.toArray w λe h=> ∃a b c,e= .returned (V a b c)/\R a b c h)(n: ∀a b c h,R a b c h->RL P N ops Q rest (upd ρ d (V a b c)) h)(ha:args.toList.map (ev ρ)=vs:=by exact rfl)(hw:fO N ops ρ ⟨some d,.call {callee:= .value (.func f),args:=args,argTypes:=at_},ty,pos,af,g⟩=true:=by exact rfl)(i:Nat.blt d N=true:=by exact rfl):RL P N ops Q (⟨some d,.call {callee:= .value (.func f),args:=args,argTypes:=at_},ty,pos,af,g⟩::rest) ρ w:=xP hw i (yK he ha) hc λ_ _ ⟨a,b,c,e,q⟩=>⟨_,e,n a b c _ q⟩
theorem cAd {V:A->B->C->D->Value}{R:A->B->C->D->World->Prop}(he:Go.OB.Enters P f)(hc:Calls P f vs.toArray w λe h=> ∃a b c z,e= .returned (V a b c z)/\R a b c z h)(n: ∀a b c z h,R a b c z h->RL P N ops Q rest (upd ρ d (V a b c z)) h)(ha:args.toList.map (ev ρ)=vs:=by exact rfl)(hw:fO N ops ρ ⟨some d,.call {callee:= .value (.func f),args:=args,argTypes:=at_},ty,pos,af,g⟩=true:=by exact rfl)(i:Nat.blt d N=true:=by exact rfl):RL P N ops Q (⟨some d,.call {callee:= .value (.func f),args:=args,argTypes:=at_},ty,pos,af,g⟩::rest) ρ w:=xP hw i (yK he ha) hc λ_ _ ⟨a,b,c,z,e,q⟩=>⟨_,e,n a b c z _ q⟩
abbrev KOne (rr:Rp α)(f:α->Value):Prop:=(∀F w c x,rr.rd F w c x↔c=[f x])/\rr.sz=1/\ ∀x,(f x).cells= #[f x]
theorem kStr:KOne Rp.str (λs=> .string (bs s)):=⟨λ_ _ _ _=>Iff.rfl,rfl,λ_=>rfl⟩
theorem kInt:KOne (Rp.int .i64) (.int .i64):=⟨λ_ _ _ _=>Iff.rfl,rfl,λ_=>rfl⟩
theorem kByt:KOne (Rp.int .u8) (.int .u8):=⟨λ_ _ _ _=>Iff.rfl,rfl,λ_=>rfl⟩
theorem kBoo:KOne Rp.bool .bool:=⟨λ_ _ _ _=>Iff.rfl,rfl,λ_=>rfl⟩
theorem ll {rr:Rp α}{f:α->Value}(k:KOne rr f){len bytes:Nat}{zs:List Value}{parts:Array (Nat×Operand)}(xl:List α)(hu:P.underlying t=some (.slice e))(he:El P e rr.sz bytes zs)(H:Hd O wo w S l)(hn:xl.length=len:=by exact rfl)(hp:Nat.blt 0 len=true:=by exact rfl)(hs:Nat.ble len 16777216=true:=by exact rfl)(hi:parts.toList.map Prod.fst=List.range len:=by exact rfl)(hv:parts.toList.map (λp=>ev ρ p.2)=xl.map f:=by exact rfl): ∃v b,Do P ⟨some d,.buildSlice t len parts,ty,pos,af,g⟩ ρ w v b/\fK w b/\Hd O wo b S (l++[.own rr v e xl]):=by
 obtain⟨hl,a,hc⟩:=k;have j: ∀xl:List α,aXv 1 (xl.map f):=λxl=>by
  induction xl with
  |nil=>exact True.intro
  |cons x xl ih=>exact⟨by rw [hc];rfl,ih⟩
 have m: ∀xl:List α,rows rr (frees O l) w (xl.map f) xl:=λxl=>by
  induction xl with
  |nil=>rfl
  |cons x xl ih=>exact⟨[f x],_,rfl,(hl _ _ _ _).2 rfl,ih⟩
 have n:(xl.map f).flatMap (λv=>v.cells.toList)=xl.map f:=by
  clear hn hv
  induction xl with
  |nil=>rfl
  |cons x xl ih=>rw [List.map_cons,List.flatMap_cons,ih,hc];rfl
 have c:len*rr.sz<=16777216:=by rw [a,Nat.mul_one];exact Nat.le_of_ble_eq_true hs
 have h:0<len*rr.sz:=by rw [a,Nat.mul_one];exact Nat.le_of_ble_eq_true hp
 have i:jF rr.sz len zs (parts.toList.map λp=>(p.1,ev ρ p.2))=some (xl.map f):=kK (by rw [a];decide) hi hv (by rw [a];exact j xl) n;exact aIb (aXz hu he c h hn i H (m xl)) (aIa hu he c h i)
theorem snd3 {R Y Z:Value->World->Prop}(h: ∃v c,R v c/\Y v c/\Z v c): ∃v c,R v c/\Z v c:=let ⟨v,c,a,_,b⟩:=h;⟨v,c,a,b⟩
theorem kl {rr:Rp α}{f:α->Value}(k:KOne rr f){len bytes:Nat}{zs:List Value}{parts:Array (Nat×Operand)}(xl:List α)(hu:P.underlying t=some (.slice e))(he:El P e rr.sz bytes zs)(H:Hd O wo w S l)(hn:xl.length=len:=by exact rfl)(hp:Nat.blt 0 len=true:=by exact rfl)(hs:Nat.ble len 16777216=true:=by exact rfl)(hi:parts.toList.map Prod.fst=List.range len:=by exact rfl)(hv:parts.toList.map (λp=>ev ρ p.2)=xl.map f:=by exact rfl): ∃v a,Do P ⟨some d,.buildSlice t len parts,ty,pos,af,g⟩ ρ w v a/\Hd O wo a S (l++[.own rr v e xl]):=snd3 (ll k xl hu he H hn hp hs hi hv)
theorem lOne (rr:Rp α)(x:α)(cs:List Value){bytes:Nat}{zs:List Value}{q:Operand}(hu:P.underlying t=some (.slice e))(he:El P e rr.sz bytes zs)(hr:rr.rd (frees O l) w cs x)(H:Hd O wo w S l)(a:cs.length=rr.sz:=by exact rfl)(c:Nat.blt 0 cs.length=true:=by exact rfl)(j:Nat.ble cs.length 16777216=true:=by exact rfl)(hv:ev ρ q= .agg cs.toArray:=by exact rfl): ∃v b,Do P ⟨some d,.buildSlice t 1 #[(0,q)],ty,pos,af,g⟩ ρ w v b/\fK w b/\Hd O wo b S (l++[.own rr v e [x]]):=by
 have f:1*rr.sz<=16777216:=by rw [<-a,Nat.one_mul];exact Nat.le_of_ble_eq_true j
 have h:0<1*rr.sz:=by rw [<-a,Nat.one_mul];exact Nat.le_of_ble_eq_true c
 have i:jF rr.sz 1 zs ((#[(0,q)]:Array (Nat×Operand)).toList.map λp=>(p.1,ev ρ p.2))=some cs:=kK (vs:=[.agg cs.toArray]) (by rw [<-a];exact Nat.le_of_ble_eq_true c) rfl (by simp [hv]) ⟨by rw [<-a];simp [Value.cells],T1⟩ (by simp [Value.cells]);exact aIb (aXz hu he f h rfl i H ⟨cs,[],by simp,hr,rfl⟩) (aIa hu he f h i)
theorem sW (rr:Rp α)(x:α)(cs:List Value){bytes:Nat}{zs:List Value}{q:Operand}(hu:P.underlying t=some (.slice e))(he:El P e rr.sz bytes zs)(hr:rr.rd (frees O l) w cs x)(H:Hd O wo w S l)(b:cs.length=rr.sz:=by exact rfl)(c:Nat.blt 0 cs.length=true:=by exact rfl)(f:Nat.ble cs.length 16777216=true:=by exact rfl)(hv:ev ρ q= .agg cs.toArray:=by exact rfl): ∃v a,Do P ⟨some d,.buildSlice t 1 #[(0,q)],ty,pos,af,g⟩ ρ w v a/\Hd O wo a S (l++[.own rr v e [x]]):=snd3 (lOne rr x cs hu he hr H b c f hv)
theorem Xu {κ:List MxM.Kd}{K:MxM.Mm->Env->World->Prop}{k:Nat}{M:MxM.Mm}{σ Si:List Nat}{vo:World}{R:World->World->Prop}(h: ∀b,fK w b-> ∃a,DoU P ⟨none,op,ty,pos,af,g⟩ ρ b a/\R b a)(n: ∀b a,fK w b->R b a->MxM.XL P (λa=>Only Si vo a) N ops κ K none σ rest ρ a)(ho: ∀b a,R b a->Only Si vo a:=by exact λ_ _ h=>h.only)(hk:MxM.kdOf κ k= .eff:=by exact rfl)(hw:fO N ops ρ ⟨none,op,ty,pos,af,g⟩=true:=by exact rfl):MxM.XL P (λa=>Only Si vo a) N ops κ K M (k::σ) (⟨none,op,ty,pos,af,g⟩::rest) ρ w:=MxM.XL_exU oS hk hw h λ_ _ s q=>⟨ho _ _ q,n _ _ s q⟩
theorem Xe {κ:List MxM.Kd}{K:MxM.Mm->Env->World->Prop}{k:Nat}{M:MxM.Mm}{σ Si:List Nat}{vo:World}{R:World->Value->World->Prop}(h: ∀b,fK w b-> ∃v a,Do P ⟨some d,op,ty,pos,af,g⟩ ρ b v a/\R b v a)(n: ∀b v a,fK w b->R b v a->MxM.XL P (λa=>Only Si vo a) N ops κ K none σ rest (upd ρ d v) a)(ho: ∀b v a,R b v a->Only Si vo a:=by exact λ_ _ _ h=>h.only)(hk:MxM.kdOf κ k= .eff:=by exact rfl)(hw:fO N ops ρ ⟨some d,op,ty,pos,af,g⟩=true:=by exact rfl)(hd:Nat.blt d N=true:=by exact rfl):MxM.XL P (λa=>Only Si vo a) N ops κ K M (k::σ) (⟨some d,op,ty,pos,af,g⟩::rest) ρ w:=MxM.XL_ex oS hk hw hd h λ_ _ _ s q=>⟨ho _ _ _ q,n _ _ _ s q⟩
end
abbrev Cl (f:Nat)(a:List Value)(w:World)(R:Ending->World->Prop):Prop:=Calls Tryz.prog f a.toArray w R
abbrev Rt (f:Nat)(a:List Value)(v:Value)(w:World)(O S:List Nat)(L:List Th):Prop:=Cl f a w λe h=>e= .returned v/\Hd O w h S L
abbrev i6 (n:Int):Value:= .int .i64 n
abbrev sb (s:Str):Value:= .string (bs s)
abbrev f1 {α:Type}(r:Rp α)(v:Value)(l:List α):Th:= .fz (.sl r v l)
theorem Hbc {O S:List Nat}{a w:World}{l:List Th}{b:Nat}{T:TypeId}{cs:List Value}(H:Hd O a w S l)(i:Nat)(h:l[i]? =some (.blk b cs T)):Cells w ⟨b,0,none⟩ cs:=Blk.cells (H.V h)
theorem Hbg {O S:List Nat}{a w:World}{l:List Th}{b:Nat}{T:TypeId}{cs:List Value}{v:Value}(H:Hd O a w S l)(i j:Nat)(h:l[i]? =some (.blk b cs T))(c:cs[j]? =some v):w.cell? ⟨b,0+j,none⟩=some v:=Cells.get (Blk.cells (H.V h)) c
theorem XP {P:Program}{I:World->Prop}{N:Nat}{ops:Array Oper}{κ:List MxM.Kd}{K:MxM.Mm->Env->World->Prop}{k:Nat}{M:MxM.Mm}{σ:List Nat}{rest:List Oper}{ρ:Env}{w:World}{d:Nat}{ty:TypeId}{pos:String}{af:Array Edge}{g:Option (Nat×Bool)}{v:Value}{op:Op}(h: ∀a,I a->Do P ⟨some d,op,ty,pos,af,g⟩ ρ a v a)(n:MxM.XL P I N ops κ K M σ rest (upd ρ d v) w)(hk:MxM.kdOf κ k= .pure:=by exact rfl)(hw:fO N ops ρ ⟨some d,op,ty,pos,af,g⟩=true:=by exact rfl)(hd:Nat.blt d N=true:=by exact rfl):MxM.XL P I N ops κ K M (k::σ) (⟨some d,op,ty,pos,af,g⟩::rest) ρ w:=MxM.XL_pure hk hw hd h n
theorem XO {P:Program}{I:World->Prop}{N:Nat}{ops:Array Oper}{κ:List MxM.Kd}{K:MxM.Mm->Env->World->Prop}{k:Nat}{M:MxM.Mm}{σ:List Nat}{rest:List Oper}{ρ:Env}{w:World}{d:Nat}{ty:TypeId}{pos:String}{af:Array Edge}{g:Option (Nat×Bool)}{op:Op}(n:MxM.XL P I N ops κ K M σ rest (upd ρ d undef) w)(hk:MxM.kdOf κ k= .pure:=by exact rfl)(hw:fO N ops ρ ⟨some d,op,ty,pos,af,g⟩=false:=by exact rfl)(hd:Nat.blt d N=true:=by exact rfl):MxM.XL P I N ops κ K M (k::σ) (⟨some d,op,ty,pos,af,g⟩::rest) ρ w:=MxM.XL_offp hk hw hd n
theorem XM {P:Program}{I:World->Prop}{N:Nat}{ops:Array Oper}{κ:List MxM.Kd}{K:MxM.Mm->Env->World->Prop}{k:Nat}{M:MxM.Mm}{σ:List Nat}{rest:List Oper}{ρ:Env}{w:World}{d:Nat}{ty:TypeId}{pos:String}{af:Array Edge}{g:Option (Nat×Bool)}{x:Operand}(v:Value)(n:MxM.XL P I N ops κ K M σ rest (upd ρ d v) w)(hx:ev ρ x=v:=by exact rfl)(hk:MxM.kdOf κ k= .pure:=by exact rfl)(hw:fO N ops ρ ⟨some d,.move x,ty,pos,af,g⟩=true:=by exact rfl)(hd:Nat.blt d N=true:=by exact rfl):MxM.XL P I N ops κ K M (k::σ) (⟨some d,.move x,ty,pos,af,g⟩::rest) ρ w:=MxM.XL_pure hk hw hd (λ_ _=>bP hx) n
theorem XR {P:Program}{c:World}{e:List Nat}{N:Nat}{ops:Array Oper}{κ:List MxM.Kd}{K:MxM.Mm->Env->World->Prop}{k:Nat}{M:MxM.Mm}{σ:List Nat}{rest:List Oper}{ρ:Env}{w:World}{d:Nat}{ty:TypeId}{pos:String}{af:Array Edge}{g:Option (Nat×Bool)}{t:TypeId}{x:Operand}{O S:List Nat}{f:World}{l:List Th}{b:Nat}{T:TypeId}{cs:List Value}{v:Value}(o:aBh P t)(H:Hd O f w S l)(i j:Nat)(h:l[i]? =some (.blk b cs T))(m:cs[j]? =some v)(n:MxM.XL P (λa=>Only e c a) N ops κ K M σ rest (upd ρ d v) w)(hx:ev ρ x= .pointer (some ⟨b,0+j,none⟩):=by exact rfl)(hk:MxM.kdOf κ k= .read:=by exact rfl)(hw:fO N ops ρ ⟨some d,.load t x,ty,pos,af,g⟩=true:=by exact rfl)(hd:Nat.blt d N=true:=by exact rfl):MxM.XL P (λa=>Only e c a) N ops κ K M (k::σ) (⟨some d,.load t x,ty,pos,af,g⟩::rest) ρ w:=MxM.yJ oS hk hw hd (λ_ p=>yL o hx (Hbg (H.Z p) i j h m)) n
theorem Ld {P:Program}{N:Nat}{ops:Array Oper}{Q:Exit->Env->World->Prop}{rest:List Oper}{ρ:Env}{w:World}{d:Nat}{t ty:TypeId}{x:Operand}{pos:String}{af:Array Edge}{g:Option (Nat×Bool)}{O S:List Nat}{a:World}{l:List Th}{b:Nat}{T:TypeId}{cs:List Value}{v:Value}(o:aBh P t)(H:Hd O a w S l)(i j:Nat)(h:l[i]? =some (.blk b cs T))(c:cs[j]? =some v)(k:RL P N ops Q rest (upd ρ d v) w)(hx:ev ρ x= .pointer (some ⟨b,0+j,none⟩):=by exact rfl)(hw:fO N ops ρ ⟨some d,.load t x,ty,pos,af,g⟩=true:=by exact rfl)(hd:Nat.blt d N=true:=by exact rfl):RL P N ops Q (⟨some d,.load t x,ty,pos,af,g⟩::rest) ρ w:=zH (yL o hx (Hbg H i j h c)) k hw hd
theorem fC {f:FuncId}{fn:Func}(h:Tryz.prog.funcs[f]? =some fn)(a:fn.body.isSome=true:=by exact rfl)(b:(fn.name== "runtime.NumGoroutine")=false:=by kernel_rfl):Go.OB.Enters Tryz.prog f:=⟨_,h,a,b⟩
theorem u2:Tryz.prog.underlying 2=some (.int .i64):=Tryz.underlying2
theorem u3:Tryz.prog.underlying 3=some (.int .i64):=Tryz.underlying3
theorem u4:Tryz.prog.underlying 4=some .bool:=Tryz.underlying4
theorem u5:Tryz.prog.underlying 5=some (.int .u8):=Tryz.underlying5
theorem u9:Tryz.prog.underlying 9=some .string:=Tryz.underlying9
theorem u22:Tryz.prog.underlying 22=some (.slice 105):=Tryz.underlying22
theorem u25:Tryz.prog.underlying 25=some (.slice 67):=Tryz.underlying25
theorem u26:Tryz.prog.underlying 26=some (.slice 63):=Tryz.underlying26
theorem u29:Tryz.prog.underlying 29=some (.slice 50):=Tryz.underlying29
theorem u31:Tryz.prog.underlying 31=some (.slice 5):=Tryz.underlying31
theorem u34:Tryz.prog.underlying 34=some (.slice 4):=Tryz.underlying34
theorem u41:Tryz.prog.underlying 41=some (.slice 139):=Tryz.underlying41
theorem u58:Tryz.prog.underlying 58=some (.int .u16):=Tryz.underlying58
theorem u60:Tryz.prog.underlying 60=some (.array 64 58):=Tryz.underlying60
theorem u61:Tryz.prog.underlying 61=some (.array 64 3):=Tryz.underlying61
theorem u65:Tryz.prog.underlying 65=some (.slice 78):=Tryz.underlying65
theorem u68:Tryz.prog.underlying 68=some (.slice 120):=Tryz.underlying68
theorem u76:Tryz.prog.underlying 76=some (.slice 127):=Tryz.underlying76
theorem u87:Tryz.prog.underlying 87=some (.map 50 4):=Tryz.underlying87
theorem u90:Tryz.prog.underlying 90=some (.slice 9):=Tryz.underlying90
theorem u91:Tryz.prog.underlying 91=some (.slice 193):=Tryz.underlying91
theorem u92:Tryz.prog.underlying 92=some (.slice 196):=Tryz.underlying92
theorem uM:Tryz.prog.underlying 103=some (.slice 174):=Tryz.underlying103
theorem nT:Tryz.prog.underlying 115=some (.slice 136):=Tryz.underlying115
theorem u124:Tryz.prog.underlying 124=some (.map 222 4):=Tryz.underlying124
theorem vH:Tryz.prog.underlying 129=some (.slice 3):=Tryz.underlying129
theorem aDy:Tryz.prog.underlying 134=some (.slice 175):=Tryz.underlying134
theorem u161:Tryz.prog.underlying 161=some (.map 213 3):=Tryz.underlying161
theorem u171:Tryz.prog.underlying 171=some (.array 16 63):=Tryz.underlying171
theorem uV:Tryz.prog.underlying 179=some (.map 3 3):=Tryz.underlying179
theorem aIl:Tryz.prog.underlying 189=some (.slice 191):=Tryz.underlying189
theorem u204:Tryz.prog.underlying 204=some (.int .u64):=Tryz.underlying204
theorem u205:Tryz.prog.underlying 205=some (.int .u64):=Tryz.underlying205
theorem u210:Tryz.prog.underlying 210=some (.slice 213):=Tryz.underlying210
theorem aIp:Tryz.prog.underlying 223=some (.slice 255):=Tryz.underlying223
theorem u225:Tryz.prog.underlying 225=some (.array 2 3):=Tryz.underlying225
theorem u239:Tryz.prog.underlying 239=some (.map 9 4):=Tryz.underlying239
theorem u253:Tryz.prog.underlying 253=some (.array 4 58):=Tryz.underlying253
theorem u284:Tryz.prog.underlying 284=some (.array 4 3):=Tryz.underlying284
theorem u286:Tryz.prog.underlying 286=some (.array 7 9):=Tryz.underlying286
theorem aIk:Tryz.prog.underlying 296=some (.map 3 295):=Tryz.underlying296
theorem fo147_2:aDn Tryz.prog 147 2=some (2,3):=by kernel_rfl
theorem fo147_3:aDn Tryz.prog 147 3=some (3,9):=by kernel_rfl
theorem fo282_3:aDn Tryz.prog 282 3=some (3,280):=by kernel_rfl
theorem ui261:Tryz.prog.underlying 261=some (.interface (Tryz.prog.methodsAt 261)):=by kernel_rfl
abbrev szZ (a b:Nat):Prop:=Sz Tryz.prog a b
theorem szO {a b:Nat}(h:Sz Tryz.prog a b:=by unfold Sz;kernel_rfl):szZ a b:=h
theorem sz3:szZ 3 1:=szO
theorem sz4:szZ 4 1:=szO
theorem sz9:szZ 9 1:=szO
theorem aAg:szZ 24 2:=szO
theorem qL:szZ 28 4:=szO
theorem sz31:szZ 31 1:=szO
theorem nG:szZ 50 2:=szO
theorem jR:szZ 58 1:=szO
theorem aIn:szZ 60 64:=szO
theorem sz61:szZ 61 64:=szO
theorem cO:szZ 63 132:=szO
theorem vM:szZ 67 4:=szO
theorem sz68:szZ 68 1:=szO
theorem bG:szZ 70 2:=szO
theorem sz73:szZ 73 1:=szO
theorem aEy:szZ 78 4:=szO
theorem sz90:szZ 90 1:=szO
theorem sz92:szZ 92 1:=szO
theorem aDz:szZ 94 3:=szO
theorem fM:szZ 105 8:=szO
theorem vJ:szZ 120 3:=szO
theorem mP:szZ 127 4:=szO
theorem sz134:szZ 134 1:=szO
theorem jB:szZ 136 4:=szO
theorem aRj:szZ 139 4:=szO
theorem aNy:szZ 147 4:=szO
theorem sz151:szZ 151 2:=szO
theorem sz171:szZ 171 2112:=szO
theorem kD:szZ 174 4:=szO
theorem sS:szZ 175 4:=szO
theorem aS:szZ 191 7:=szO
theorem qX:szZ 196 8:=szO
theorem aNj:szZ 213 3:=szO
theorem aXt:szZ 222 3:=szO
theorem sz239:szZ 239 1:=szO
theorem sz256:szZ 256 1:=szO
theorem jG:szZ 282 4:=szO
theorem sz288:szZ 288 7:=szO
theorem sz294:szZ 294 1:=szO
abbrev uC (a:Nat):Prop:=aBh Tryz.prog a
theorem uQ {a:Nat}(h:aBh Tryz.prog a:=by unfold aBh;kernel_rfl):uC a:=h
theorem gX:uC 3:=uQ
theorem vV:uC 4:=uQ
theorem bU:uC 9:=uQ
theorem qK:uC 22:=uQ
theorem wX:uC 25:=uQ
theorem nN:uC 26:=uQ
theorem aSh:uC 31:=uQ
theorem one35:uC 35:=uQ
theorem aC:uC 58:=uQ
theorem aHx:uC 65:=uQ
theorem uJ:uC 68:=uQ
theorem one73:uC 73:=uQ
theorem vN:uC 76:=uQ
theorem rH:uC 90:=uQ
theorem one91:uC 91:=uQ
theorem aBw:uC 92:=uQ
theorem rD:uC 103:=uQ
theorem vK:uC 134:=uQ
theorem aHp:uC 145:=uQ
theorem aHc:uC 189:=uQ
theorem one239:uC 239:=uQ
theorem one256:uC 256:=uQ
theorem one280:uC 280:=uQ
theorem aUx:uC 294:=uQ
abbrev rY (a:Nat):Prop:=Agg Tryz.prog a
theorem sU {a:Nat}(h:Agg Tryz.prog a:=by unfold Agg;kernel_rfl):rY a:=h
theorem nS:rY 24:=sU
theorem kC:rY 28:=sU
theorem rG:rY 50:=sU
theorem aBv:rY 60:=sU
theorem agg61:rY 61:=sU
theorem uK:rY 63:=sU
theorem aFl:rY 67:=sU
theorem kJ:rY 70:=sU
theorem aFi:rY 78:=sU
theorem aAi:rY 94:=sU
theorem fZ:rY 105:=sU
theorem aJr:rY 120:=sU
theorem aBe:rY 127:=sU
theorem vG:rY 136:=sU
theorem agg139:rY 139:=sU
theorem aVq:rY 147:=sU
theorem agg171:rY 171:=sU
theorem vT:rY 174:=sU
theorem aGu:rY 175:=sU
theorem kN:rY 191:=sU
theorem aHi:rY 196:=sU
theorem aQb:rY 213:=sU
theorem aVa:rY 222:=sU
theorem rX:rY 282:=sU
theorem agg288:rY 288:=sU
theorem zero3:Go.OB.Zero Tryz.prog 3 ([i6 0]):=by unfold Go.OB.Zero;kernel_rfl
theorem zero4:Go.OB.Zero Tryz.prog 4 ([vb false]):=by unfold Go.OB.Zero;kernel_rfl
theorem aUg:Go.OB.Zero Tryz.prog 50 ([i6 0,i6 0]):=by unfold Go.OB.Zero;kernel_rfl
theorem aGr:Go.OB.Zero Tryz.prog 63 ([i6 0,.int .u16 0,.int .u16 0,.int .u16 0,.int .u16 0,.int .u16 0,.int .u16 0,.int .u16 0,.int .u16 0,.int .u16 0,.int .u16 0,.int .u16 0,.int .u16 0,.int .u16 0,.int .u16 0,.int .u16 0,.int .u16 0,.int .u16 0,.int .u16 0,.int .u16 0,.int .u16 0,.int .u16 0,.int .u16 0,.int .u16 0,.int .u16 0,.int .u16 0,.int .u16 0,.int .u16 0,.int .u16 0,.int .u16 0,.int .u16 0,.int .u16 0,.int .u16 0,.int .u16 0,.int .u16 0,.int .u16 0,.int .u16 0,.int .u16 0,.int .u16 0,.int .u16 0,.int .u16 0,.int .u16 0,.int .u16 0,.int .u16 0,.int .u16 0,.int .u16 0,.int .u16 0,.int .u16 0,.int .u16 0,.int .u16 0,.int .u16 0,.int .u16 0,.int .u16 0,.int .u16 0,.int .u16 0,.int .u16 0,.int .u16 0,.int .u16 0,.int .u16 0,.int .u16 0,.int .u16 0,.int .u16 0,.int .u16 0,.int .u16 0,.int .u16 0,i6 0,i6 0,i6 0,i6 0,i6 0,i6 0,i6 0,i6 0,i6 0,i6 0,i6 0,i6 0,i6 0,i6 0,i6 0,i6 0,i6 0,i6 0,i6 0,i6 0,i6 0,i6 0,i6 0,i6 0,i6 0,i6 0,i6 0,i6 0,i6 0,i6 0,i6 0,i6 0,i6 0,i6 0,i6 0,i6 0,i6 0,i6 0,i6 0,i6 0,i6 0,i6 0,i6 0,i6 0,i6 0,i6 0,i6 0,i6 0,i6 0,i6 0,i6 0,i6 0,i6 0,i6 0,i6 0,i6 0,i6 0,i6 0,i6 0,i6 0,i6 0,i6 0,i6 0,i6 0,vb false,i6 0,vb false]):=by unfold Go.OB.Zero;kernel_rfl
theorem aKq:Go.OB.Zero Tryz.prog 67 ([.string (bs []),.string (bs []),.slice none 0 0,i6 0]):=by unfold Go.OB.Zero;kernel_rfl
theorem mJ:Go.OB.Zero Tryz.prog 70 ([i6 0,.slice none 0 0]):=by unfold Go.OB.Zero;kernel_rfl
theorem zero73:Go.OB.Zero Tryz.prog 73 ([.nilFunc]):=by unfold Go.OB.Zero;kernel_rfl
theorem zero78:Go.OB.Zero Tryz.prog 78 ([i6 0,.slice none 0 0,i6 0,i6 0]):=by unfold Go.OB.Zero;kernel_rfl
theorem zero90:Go.OB.Zero Tryz.prog 90 ([.slice none 0 0]):=by unfold Go.OB.Zero;kernel_rfl
theorem aPj:Go.OB.Zero Tryz.prog 94 ([.slice none 0 0,.slice none 0 0,.slice none 0 0]):=by unfold Go.OB.Zero;kernel_rfl
theorem nK:Go.OB.Zero Tryz.prog 105 ([.string (bs []),i6 0,.slice none 0 0,i6 0,i6 0,i6 0,i6 0,.slice none 0 0]):=by unfold Go.OB.Zero;kernel_rfl
theorem aQl:Go.OB.Zero Tryz.prog 120 ([i6 0,i6 0,i6 0]):=by unfold Go.OB.Zero;kernel_rfl
theorem aDe:Go.OB.Zero Tryz.prog 127 ([i6 0,i6 0,i6 0,i6 0]):=by unfold Go.OB.Zero;kernel_rfl
theorem aBu:Go.OB.Zero Tryz.prog 136 ([i6 0,i6 0,i6 0,.slice none 0 0]):=by unfold Go.OB.Zero;kernel_rfl
theorem zero139:Go.OB.Zero Tryz.prog 139 ([.string (bs []),i6 0,.slice none 0 0,i6 0]):=by unfold Go.OB.Zero;kernel_rfl
theorem aXq:Go.OB.Zero Tryz.prog 147 ([i6 0,i6 0,i6 0,.string (bs [])]):=by unfold Go.OB.Zero;kernel_rfl
theorem zero151:Go.OB.Zero Tryz.prog 151 ([i6 0,i6 0]):=by unfold Go.OB.Zero;kernel_rfl
theorem zero171:Go.OB.Zero Tryz.prog 171 ((Fl.arr 16 pK).f (Arr.rep 16 (gU.mk 0 (Arr.rep 64 0:Arr 64 Int) (Arr.rep 64 0:Arr 64 Int) false 0 false):Arr 16 gU)):=by unfold Go.OB.Zero;kernel_rfl
theorem uS:Go.OB.Zero Tryz.prog 174 ([i6 0,i6 0,i6 0,i6 0]):=by unfold Go.OB.Zero;kernel_rfl
theorem aGi:Go.OB.Zero Tryz.prog 175 ([i6 0,i6 0,i6 0,i6 0]):=by unfold Go.OB.Zero;kernel_rfl
theorem wZ:Go.OB.Zero Tryz.prog 191 ([i6 0,.string (bs []),.string (bs []),i6 0,i6 0,i6 0,.slice none 0 0]):=by unfold Go.OB.Zero;kernel_rfl
theorem aIy:Go.OB.Zero Tryz.prog 196 ([.string (bs []),i6 0,.string (bs []),.string (bs []),i6 0,i6 0,i6 0,.slice none 0 0]):=by unfold Go.OB.Zero;kernel_rfl
theorem zero213:Go.OB.Zero Tryz.prog 213 ([i6 0,i6 0,i6 0]):=by unfold Go.OB.Zero;kernel_rfl
theorem zero222:Go.OB.Zero Tryz.prog 222 ((Fl.arr 3 (Fl.int .i64)).f (Arr.rep 3 0:Arr 3 Int)):=by unfold Go.OB.Zero;kernel_rfl
theorem zero239:Go.OB.Zero Tryz.prog 239 ([.map none]):=by unfold Go.OB.Zero;kernel_rfl
theorem zero256:Go.OB.Zero Tryz.prog 256 ([.nilFunc]):=by unfold Go.OB.Zero;kernel_rfl
theorem wO:Go.OB.Zero Tryz.prog 282 ([i6 0,i6 0,.nilFunc,.nilFunc]):=by unfold Go.OB.Zero;kernel_rfl
theorem aXn:Go.OB.Zero Tryz.prog 288 ([vb false,vb false,vb false,vb false,vb false,i6 0,i6 0]):=by unfold Go.OB.Zero;kernel_rfl
theorem zero294:Go.OB.Zero Tryz.prog 294 ([.nilFunc]):=by unfold Go.OB.Zero;kernel_rfl
theorem el3:El Tryz.prog 3 1 8 ([i6 0]):=⟨by kernel_rfl,by kernel_rfl,by kernel_rfl,by decide,by decide⟩
theorem el4:El Tryz.prog 4 1 1 ([vb false]):=⟨by kernel_rfl,by kernel_rfl,by kernel_rfl,by decide,by decide⟩
theorem el5:El Tryz.prog 5 1 1 ([.int .u8 0]):=⟨by kernel_rfl,by kernel_rfl,by kernel_rfl,by decide,by decide⟩
theorem el9:El Tryz.prog 9 1 16 ([.string (bs [])]):=⟨by kernel_rfl,by kernel_rfl,by kernel_rfl,by decide,by decide⟩
theorem el50:El Tryz.prog 50 2 16 ([i6 0,i6 0]):=⟨by kernel_rfl,by kernel_rfl,by kernel_rfl,by decide,by decide⟩
theorem el63:El Tryz.prog 63 132 672 ([i6 0,.int .u16 0,.int .u16 0,.int .u16 0,.int .u16 0,.int .u16 0,.int .u16 0,.int .u16 0,.int .u16 0,.int .u16 0,.int .u16 0,.int .u16 0,.int .u16 0,.int .u16 0,.int .u16 0,.int .u16 0,.int .u16 0,.int .u16 0,.int .u16 0,.int .u16 0,.int .u16 0,.int .u16 0,.int .u16 0,.int .u16 0,.int .u16 0,.int .u16 0,.int .u16 0,.int .u16 0,.int .u16 0,.int .u16 0,.int .u16 0,.int .u16 0,.int .u16 0,.int .u16 0,.int .u16 0,.int .u16 0,.int .u16 0,.int .u16 0,.int .u16 0,.int .u16 0,.int .u16 0,.int .u16 0,.int .u16 0,.int .u16 0,.int .u16 0,.int .u16 0,.int .u16 0,.int .u16 0,.int .u16 0,.int .u16 0,.int .u16 0,.int .u16 0,.int .u16 0,.int .u16 0,.int .u16 0,.int .u16 0,.int .u16 0,.int .u16 0,.int .u16 0,.int .u16 0,.int .u16 0,.int .u16 0,.int .u16 0,.int .u16 0,.int .u16 0,i6 0,i6 0,i6 0,i6 0,i6 0,i6 0,i6 0,i6 0,i6 0,i6 0,i6 0,i6 0,i6 0,i6 0,i6 0,i6 0,i6 0,i6 0,i6 0,i6 0,i6 0,i6 0,i6 0,i6 0,i6 0,i6 0,i6 0,i6 0,i6 0,i6 0,i6 0,i6 0,i6 0,i6 0,i6 0,i6 0,i6 0,i6 0,i6 0,i6 0,i6 0,i6 0,i6 0,i6 0,i6 0,i6 0,i6 0,i6 0,i6 0,i6 0,i6 0,i6 0,i6 0,i6 0,i6 0,i6 0,i6 0,i6 0,i6 0,i6 0,i6 0,i6 0,i6 0,i6 0,vb false,i6 0,vb false]):=⟨by kernel_rfl,by kernel_rfl,by kernel_rfl,by decide,by decide⟩
theorem el105:El Tryz.prog 105 8 104 ([.string (bs []),i6 0,.slice none 0 0,i6 0,i6 0,i6 0,i6 0,.slice none 0 0]):=⟨by kernel_rfl,by kernel_rfl,by kernel_rfl,by decide,by decide⟩
theorem vO:El Tryz.prog 120 3 24 ([i6 0,i6 0,i6 0]):=⟨by kernel_rfl,by kernel_rfl,by kernel_rfl,by decide,by decide⟩
theorem aIe:El Tryz.prog 136 4 48 ([i6 0,i6 0,i6 0,.slice none 0 0]):=⟨by kernel_rfl,by kernel_rfl,by kernel_rfl,by decide,by decide⟩
theorem aWq:El Tryz.prog 139 4 56 ([.string (bs []),i6 0,.slice none 0 0,i6 0]):=⟨by kernel_rfl,by kernel_rfl,by kernel_rfl,by decide,by decide⟩
theorem aRz:El Tryz.prog 175 4 32 ([i6 0,i6 0,i6 0,i6 0]):=⟨by kernel_rfl,by kernel_rfl,by kernel_rfl,by decide,by decide⟩
theorem el191:El Tryz.prog 191 7 88 ([i6 0,.string (bs []),.string (bs []),i6 0,i6 0,i6 0,.slice none 0 0]):=⟨by kernel_rfl,by kernel_rfl,by kernel_rfl,by decide,by decide⟩
theorem aSl:El Tryz.prog 196 8 104 ([.string (bs []),i6 0,.string (bs []),.string (bs []),i6 0,i6 0,i6 0,.slice none 0 0]):=⟨by kernel_rfl,by kernel_rfl,by kernel_rfl,by decide,by decide⟩
theorem el213:El Tryz.prog 213 3 24 ([i6 0,i6 0,i6 0]):=⟨by kernel_rfl,by kernel_rfl,by kernel_rfl,by decide,by decide⟩
theorem aEc:El Tryz.prog 255 2 16 ([i6 0,i6 0]):=⟨by kernel_rfl,by kernel_rfl,by kernel_rfl,by decide,by decide⟩
theorem z8_5:Z8 Tryz.prog 5:=by unfold Z8;kernel_rfl
theorem bz33:Tryz.prog.built 33 []=some ([.slice none 0 0]).toArray:=by kernel_rfl
theorem aSc:Tryz.prog.built 70 []=some ([i6 0,.slice none 0 0]).toArray:=by kernel_rfl
theorem bz105:Tryz.prog.built 105 []=some ([.string (bs []),i6 0,.slice none 0 0,i6 0,i6 0,i6 0,i6 0,.slice none 0 0]).toArray:=by kernel_rfl
theorem bt24_1 (a:Option Addr)(b c:Nat):Tryz.prog.built 24 [(1,.slice a b c)]=some [i6 0,.slice a b c].toArray:=by kernel_rfl
theorem aGb (a b:Int):Tryz.prog.built 50 [(0,i6 a),(1,i6 b)]=some [i6 a,i6 b].toArray:=by kernel_rfl
theorem bt63_0 (a:Int):Tryz.prog.built 63 [(0,i6 a)]=some [i6 a,.int .u16 0,.int .u16 0,.int .u16 0,.int .u16 0,.int .u16 0,.int .u16 0,.int .u16 0,.int .u16 0,.int .u16 0,.int .u16 0,.int .u16 0,.int .u16 0,.int .u16 0,.int .u16 0,.int .u16 0,.int .u16 0,.int .u16 0,.int .u16 0,.int .u16 0,.int .u16 0,.int .u16 0,.int .u16 0,.int .u16 0,.int .u16 0,.int .u16 0,.int .u16 0,.int .u16 0,.int .u16 0,.int .u16 0,.int .u16 0,.int .u16 0,.int .u16 0,.int .u16 0,.int .u16 0,.int .u16 0,.int .u16 0,.int .u16 0,.int .u16 0,.int .u16 0,.int .u16 0,.int .u16 0,.int .u16 0,.int .u16 0,.int .u16 0,.int .u16 0,.int .u16 0,.int .u16 0,.int .u16 0,.int .u16 0,.int .u16 0,.int .u16 0,.int .u16 0,.int .u16 0,.int .u16 0,.int .u16 0,.int .u16 0,.int .u16 0,.int .u16 0,.int .u16 0,.int .u16 0,.int .u16 0,.int .u16 0,.int .u16 0,.int .u16 0,i6 0,i6 0,i6 0,i6 0,i6 0,i6 0,i6 0,i6 0,i6 0,i6 0,i6 0,i6 0,i6 0,i6 0,i6 0,i6 0,i6 0,i6 0,i6 0,i6 0,i6 0,i6 0,i6 0,i6 0,i6 0,i6 0,i6 0,i6 0,i6 0,i6 0,i6 0,i6 0,i6 0,i6 0,i6 0,i6 0,i6 0,i6 0,i6 0,i6 0,i6 0,i6 0,i6 0,i6 0,i6 0,i6 0,i6 0,i6 0,i6 0,i6 0,i6 0,i6 0,i6 0,i6 0,i6 0,i6 0,i6 0,i6 0,i6 0,i6 0,i6 0,i6 0,i6 0,i6 0,vb false,i6 0,vb false].toArray:=by kernel_rfl
theorem aPt (a:Int):Tryz.prog.built 70 [(0,i6 a)]=some [i6 a,.slice none 0 0].toArray:=by kernel_rfl
theorem aRi (a:Int)(b:Option Addr)(c d:Nat):Tryz.prog.built 70 [(0,i6 a),(1,.slice b c d)]=some [i6 a,.slice b c d].toArray:=by kernel_rfl
theorem aQi (a:Int):Tryz.prog.built 120 [(0,i6 a)]=some [i6 a,i6 0,i6 0].toArray:=by kernel_rfl
theorem aCm (a b c:Int):Tryz.prog.built 120 [(0,i6 a),(1,i6 b),(2,i6 c)]=some [i6 a,i6 b,i6 c].toArray:=by kernel_rfl
theorem aIg (a b c:Int):Tryz.prog.built 136 [(0,i6 a),(1,i6 b),(2,i6 c)]=some [i6 a,i6 b,i6 c,.slice none 0 0].toArray:=by kernel_rfl
theorem aHu (a:Str)(b:Int)(c:Option Addr)(d e:Nat)(f:Int):Tryz.prog.built 139 [(0,sb a),(1,.agg [i6 b,.slice c d e].toArray),(2,i6 f)]=some [sb a,i6 b,.slice c d e,i6 f].toArray:=by kernel_rfl
theorem bt147_0_1 (a b:Int):Tryz.prog.built 147 [(0,i6 a),(1,i6 b)]=some [i6 a,i6 b,i6 0,.string (bs [])].toArray:=by kernel_rfl
theorem bt149_0 (a:Str):Tryz.prog.built 149 [(0,sb a)]=some [sb a,i6 0,i6 0,i6 0,i6 0,.string (bs []),.slice none 0 0,.slice none 0 0,.slice none 0 0].toArray:=by kernel_rfl
theorem aEk (a b c d:Int):Tryz.prog.built 175 [(0,i6 a),(1,i6 b),(2,i6 c),(3,i6 d)]=some [i6 a,i6 b,i6 c,i6 d].toArray:=by kernel_rfl
theorem bt191_0_1 (a:Int)(b:Str):Tryz.prog.built 191 [(0,i6 a),(1,sb b)]=some [i6 a,sb b,.string (bs []),i6 0,i6 0,i6 0,.slice none 0 0].toArray:=by kernel_rfl
theorem bt196_0 (a:Str):Tryz.prog.built 196 [(0,sb a)]=some [sb a,i6 0,.string (bs []),.string (bs []),i6 0,i6 0,i6 0,.slice none 0 0].toArray:=by kernel_rfl
theorem aSr (a b c:Int):Tryz.prog.built 213 [(0,i6 a),(1,i6 b),(2,i6 c)]=some [i6 a,i6 b,i6 c].toArray:=by kernel_rfl
theorem aRs (a b c:Int):Tryz.prog.built 222 [(0,i6 a),(1,i6 b),(2,i6 c)]=some [i6 a,i6 b,i6 c].toArray:=by kernel_rfl
theorem bt225_0_1 (a b:Int):Tryz.prog.built 225 [(0,i6 a),(1,i6 b)]=some [i6 a,i6 b].toArray:=by kernel_rfl
theorem aAm (a b:Int):Tryz.prog.built 255 [(0,i6 a),(1,i6 b)]=some [i6 a,i6 b].toArray:=by kernel_rfl
theorem aMj (a b c d:Int):Tryz.prog.built 284 [(0,i6 a),(1,i6 b),(2,i6 c),(3,i6 d)]=some [i6 a,i6 b,i6 c,i6 d].toArray:=by kernel_rfl
theorem aRd (a b c:Bool):Tryz.prog.built 288 [(0,vb a),(2,vb b),(3,vb c)]=some [vb a,vb false,vb b,vb c,vb false,i6 0,i6 0].toArray:=by kernel_rfl
abbrev gQ (b:Nat):Value:= .pointer (some ⟨b,0,none⟩)
def FAt (t i m:Nat):Prop:= ∀{ρ:Env}{w:World}{d:Option Tmp}{x:Operand}{ty:TypeId}{pos:String}{af:Array Edge}{g:Option (Nat×Bool)}{b o:Nat} (_:ev ρ x= .pointer (some ⟨b,o,none⟩)),Do Tryz.prog ⟨d,.fieldAddr t x i,ty,pos,af,g⟩ ρ w (.pointer (some ⟨b,o+m,none⟩)) w
theorem faO {t i m:Nat}(n:Nat)(h:aKh Tryz.prog t i=some (m,some n):=by kernel_rfl)(hn:n≠0:=by decide):FAt t i m:=λhx=>aMu h hn hx
theorem aQg:FAt 24 0 0:=faO 1
theorem kZ:FAt 24 1 1:=faO 1
theorem vZ:FAt 28 0 0:=faO 2
theorem qU:FAt 28 1 2:=faO 1
theorem kF:FAt 28 2 3:=faO 1
theorem aBl:FAt 33 0 0:=faO 1
theorem aBf:FAt 50 0 0:=faO 1
theorem aBj:FAt 50 1 1:=faO 1
theorem bC:FAt 63 0 0:=faO 1
theorem rM:FAt 63 1 1:=faO 64
theorem uF:FAt 63 2 65:=faO 64
theorem aCs:FAt 63 3 129:=faO 1
theorem aPf:FAt 63 4 130:=faO 1
theorem fa63_5:FAt 63 5 131:=faO 1
theorem aCd:FAt 67 0 0:=faO 1
theorem aKf:FAt 67 1 1:=faO 1
theorem aCr:FAt 67 2 2:=faO 1
theorem aPe:FAt 67 3 3:=faO 1
theorem aUj:FAt 70 0 0:=faO 1
theorem kE:FAt 70 1 1:=faO 1
theorem aQj:FAt 78 0 0:=faO 1
theorem pV:FAt 78 1 1:=faO 1
theorem aGp:FAt 78 2 2:=faO 1
theorem aGs:FAt 78 3 3:=faO 1
theorem fa94_0:FAt 94 0 0:=faO 1
theorem aVm:FAt 94 1 1:=faO 1
theorem qQ:FAt 94 2 2:=faO 1
theorem uP:FAt 105 0 0:=faO 1
theorem jU:FAt 105 1 1:=faO 1
theorem jX:FAt 105 2 2:=faO 1
theorem aJi:FAt 105 3 3:=faO 1
theorem aDk:FAt 105 4 4:=faO 1
theorem nC:FAt 105 5 5:=faO 1
theorem sK:FAt 105 6 6:=faO 1
theorem jY:FAt 105 7 7:=faO 1
theorem aFt:FAt 120 0 0:=faO 1
theorem aDv:FAt 120 1 1:=faO 1
theorem wQ:FAt 120 2 2:=faO 1
theorem rZ:FAt 127 0 0:=faO 1
theorem sF:FAt 127 1 1:=faO 1
theorem aDg:FAt 127 2 2:=faO 1
theorem aDr:FAt 127 3 3:=faO 1
theorem aYl:FAt 136 0 0:=faO 1
theorem fa136_1:FAt 136 1 1:=faO 1
theorem aWi:FAt 136 2 2:=faO 1
theorem nI:FAt 136 3 3:=faO 1
theorem fa139_0:FAt 139 0 0:=faO 1
theorem fa139_1:FAt 139 1 1:=faO 2
theorem fa139_2:FAt 139 2 3:=faO 1
theorem pM:FAt 147 0 0:=faO 1
theorem fa147_2:FAt 147 2 2:=faO 1
theorem aFs:FAt 147 3 3:=faO 1
theorem aBn:FAt 149 0 0:=faO 1
theorem pO:FAt 149 1 1:=faO 1
theorem aA:FAt 149 2 2:=faO 4
theorem aJg:FAt 149 3 6:=faO 3
theorem fa151_1:FAt 151 1 1:=faO 1
theorem aDq:FAt 174 0 0:=faO 1
theorem aDc:FAt 174 1 1:=faO 1
theorem aDj:FAt 174 2 2:=faO 1
theorem aDp:FAt 174 3 3:=faO 1
theorem aFy:FAt 175 0 0:=faO 1
theorem aCy:FAt 175 1 1:=faO 1
theorem aFu:FAt 175 2 2:=faO 1
theorem aDm:FAt 175 3 3:=faO 1
theorem wU:FAt 191 0 0:=faO 1
theorem aWs:FAt 191 1 1:=faO 1
theorem fa191_2:FAt 191 2 2:=faO 1
theorem aPv:FAt 191 3 3:=faO 1
theorem aXk:FAt 191 4 4:=faO 1
theorem fa191_5:FAt 191 5 5:=faO 1
theorem aDt:FAt 191 6 6:=faO 1
theorem aDf:FAt 196 0 0:=faO 1
theorem aFv:FAt 196 1 1:=faO 7
theorem aYq:FAt 288 0 0:=faO 1
theorem aXj:FAt 288 1 1:=faO 1
theorem aWl:FAt 288 2 2:=faO 1
theorem aXu:FAt 288 3 3:=faO 1
theorem aXy:FAt 288 4 4:=faO 1
theorem fa288_5:FAt 288 5 5:=faO 1
theorem fa288_6:FAt 288 6 6:=faO 1
theorem eqf3:EqF Tryz.prog 3 (Fl.int .i64) 1:=EqF.int Tryz.underlying3
theorem eqf213:EqF Tryz.prog 213 dF 2:=EqF.struct (k:=1) (λx y h=>by cases x;cases y;simp_all) Tryz.underlying213 (by kernel_rfl) (by unfold Sz;kernel_rfl) ((aLu.cons rfl (by decide) (eqf3.up (by decide)) ((aLu.cons rfl (by decide) (eqf3.up (by decide)) (aLu.one rfl (by decide) (eqf3.up (by decide)))))))
theorem eqf222:EqF Tryz.prog 222 (Fl.arr 3 (Fl.int .i64)) 2:=EqF.arr Tryz.underlying222 (by unfold Sz;kernel_rfl) (by unfold Sz;kernel_rfl) eqf3
theorem eqf50:EqF Tryz.prog 50 kX 2:=EqF.struct (k:=1) (λx y h=>by cases x;cases y;simp_all) Tryz.underlying50 (by kernel_rfl) (by unfold Sz;kernel_rfl) ((aLu.cons rfl (by decide) (eqf3.up (by decide)) (aLu.one rfl (by decide) (eqf3.up (by decide)))))
theorem wk50:WK Tryz.prog 50 kX:=⟨⟨_,Tryz.underlying50,λ_ _=>rfl⟩,λb a w=>by kernel_rfl,⟨_,by decide,eqf50⟩,rG,nG,λa=>by exact sb_of rfl⟩
theorem wk213:WK Tryz.prog 213 dF:=⟨⟨_,Tryz.underlying213,λ_ _=>rfl⟩,λb a w=>by kernel_rfl,⟨_,by decide,eqf213⟩,aQb,aNj,λa=>by exact sb_of rfl⟩
theorem wk222:WK Tryz.prog 222 (Fl.arr 3 (Fl.int .i64)):=⟨⟨_,Tryz.underlying222,λ_ _=>rfl⟩,λb a w=>by obtain⟨x,y,z,h,rfl⟩:=aSn a;kernel_rfl,⟨_,by decide,eqf222⟩,aVa,aXt,λa=>by obtain⟨x,y,z,h,rfl⟩:=aSn a;exact sb_of rfl⟩
abbrev dD:=f1 Rp.str
abbrev aV:=f1 jP
abbrev kG:=f1 bT
abbrev kP:=f1 tZ
abbrev rU:=f1 nX
abbrev uA:=f1 tC
abbrev aAh:=f1 eP
abbrev aBb:=f1 fP
abbrev aBy:=f1 rC
abbrev aBz:=f1 eF
abbrev vW:=f1 aEf
abbrev aEg:=f1 eU
abbrev aLr:=f1 (Rp.int .i64)
section
variable {O S:List Nat}{v w:World}{a b c d e f g i j k l m n o p q r:Th}
abbrev hh (p:Prop):Prop:=p->p
theorem un1:hh (Hd O v w S [a]):=id
theorem un2:hh (Hd O v w S [a,b]):=id
theorem un3:hh (Hd O v w S [a,b,c]):=id
theorem un4:hh (Hd O v w S [a,b,c,d]):=id
theorem un5:hh (Hd O v w S [a,b,c,d,e]):=id
theorem un6:hh (Hd O v w S [a,b,c,d,e,f]):=id
theorem un7:hh (Hd O v w S [a,b,c,d,e,f,g]):=id
theorem un8:hh (Hd O v w S [a,b,c,d,e,f,g,i]):=id
theorem un9:hh (Hd O v w S [a,b,c,d,e,f,g,i,j]):=id
theorem aGl:hh (Hd O v w S [a,b,c,d,e,f,g,i,j,k]):=id
theorem un11:hh (Hd O v w S [a,b,c,d,e,f,g,i,j,k,l]):=id
theorem un12:hh (Hd O v w S [a,b,c,d,e,f,g,i,j,k,l,m]):=id
theorem un14:hh (Hd O v w S [a,b,c,d,e,f,g,i,j,k,l,m,n,o]):=id
theorem un15:hh (Hd O v w S [a,b,c,d,e,f,g,i,j,k,l,m,n,o,p]):=id
theorem un17:hh (Hd O v w S [a,b,c,d,e,f,g,i,j,k,l,m,n,o,p,q,r]):=id
end
section
variable {P:Program}{N:Nat}{ops:Array Oper}{Q:Exit->Env->World->Prop}{rest:List Oper}{ρ:Env}{w:World}{d f:Nat}{t u ty tz:TypeId}{x y:Operand}{pos qos:String}{af bf:Array Edge}{g h:Option (Nat×Bool)}{b o m i:Nat}
theorem nf (hx:ev ρ x= .pointer (some ⟨b,o,none⟩))(fa:FAt t i m)(n:RL Tryz.prog N ops Q rest (upd (upd ρ d (.pointer (some ⟨b,o,none⟩))) f (.pointer (some ⟨b,o+m,none⟩))) w)(hy:ev (upd ρ d (.pointer (some ⟨b,o,none⟩))) y= .pointer (some ⟨b,o,none⟩):=by exact rfl)(hw:fO N ops ρ ⟨some d,.nilCheck x,ty,pos,af,g⟩=true:=by exact rfl)(hd:Nat.blt d N=true:=by exact rfl)(hv:fO N ops (upd ρ d (.pointer (some ⟨b,o,none⟩))) ⟨some f,.fieldAddr t y i,tz,qos,bf,h⟩=true:=by exact rfl)(hf:Nat.blt f N=true:=by exact rfl):RL Tryz.prog N ops Q (⟨some d,.nilCheck x,ty,pos,af,g⟩::⟨some f,.fieldAddr t y i,tz,qos,bf,h⟩::rest) ρ w:=zH (xX hx) (zH (fa hy) n hv hf) hw hd
theorem Xn {I:World->Prop}{κ:List MxM.Kd}{K:MxM.Mm->Env->World->Prop}{k q:Nat}{M:MxM.Mm}{σ:List Nat}(hx:ev ρ x= .pointer (some ⟨b,o,none⟩))(fa:FAt t i m)(n:MxM.XL Tryz.prog I N ops κ K M σ rest (upd (upd ρ d (.pointer (some ⟨b,o,none⟩))) f (.pointer (some ⟨b,o+m,none⟩))) w)(hy:ev (upd ρ d (.pointer (some ⟨b,o,none⟩))) y= .pointer (some ⟨b,o,none⟩):=by exact rfl)(hk:MxM.kdOf κ k= .pure:=by exact rfl)(hq:MxM.kdOf κ q= .pure:=by exact rfl)(hw:fO N ops ρ ⟨some d,.nilCheck x,ty,pos,af,g⟩=true:=by exact rfl)(hd:Nat.blt d N=true:=by exact rfl)(hv:fO N ops (upd ρ d (.pointer (some ⟨b,o,none⟩))) ⟨some f,.fieldAddr t y i,tz,qos,bf,h⟩=true:=by exact rfl)(hf:Nat.blt f N=true:=by exact rfl):MxM.XL Tryz.prog I N ops κ K M (k::q::σ) (⟨some d,.nilCheck x,ty,pos,af,g⟩::⟨some f,.fieldAddr t y i,tz,qos,bf,h⟩::rest) ρ w:=XQ (xX hx) (XQ (fa hy) n hq hv hf) hk hw hd
theorem nJ {I:World->Prop}{κ:List MxM.Kd}{K:MxM.Mm->Env->World->Prop}{M:MxM.Mm}{σ O S:List Nat}{v u:World}{l r:List Th}(G:Hd O v u S r)(H:Hd O u w (bks r) l)(n: ∀a,Hd O v a S l->K M ρ a):MxM.XL P I N ops κ K M σ [] ρ w:=MxM.XL_nil λa s=>n a (G.rj (H.Z s))
end
theorem _root_.Go.Lf.Hd.im {O S:List Nat}{v w:World}{l:List Th}(H:Hd O v w S l)(i:Nat){it:Th}(h:l[i]? =some it):it.holds (frees O l) w:=H.V h
theorem _root_.Go.Lf.Hm.im {n:Nat}{A:Nat->Prop}{O S:List Nat}{v w:World}{l:List Th}(H:Hm n A O v w S l)(i:Nat){it:Th}(h:l[i]? =some it):it.holds (frm O l v) w:=H.V h
theorem p1z {P:Program}{R:Ending->World->Prop}{ρ:Env}{w:World}{rs:Array ResultVar}{t:Tmp}{v:Value}(h:R (.returned v) w)(hr:rs= #[.tmp t]:=by exact rfl)(a:ρ t=v:=by exact rfl):aAn P rs R .ret ρ w:=aMe hr a h
theorem en6:En 6:=fC Tryz.func6
theorem en7:En 7:=fC Tryz.func7
theorem en8:En 8:=fC Tryz.func8
theorem en9:En 9:=fC Tryz.func9
theorem en14:En 14:=fC Tryz.func14
theorem en16:En 16:=fC Tryz.func16
theorem en18:En 18:=fC Tryz.func18
theorem aQn:En 20:=fC Tryz.func20
theorem en22:En 22:=fC Tryz.func22
theorem en24:En 24:=fC Tryz.func24
theorem en26:En 26:=fC Tryz.func26
theorem en28:En 28:=fC Tryz.func28
theorem en30:En 30:=fC Tryz.func30
theorem en32:En 32:=fC Tryz.func32
theorem en35:En 35:=fC Tryz.func35
theorem en36:En 36:=fC Tryz.func36
theorem en48:En 48:=fC Tryz.func48
theorem en49:En 49:=fC Tryz.func49
theorem en53:En 53:=fC Tryz.func53
theorem en54:En 54:=fC Tryz.func54
theorem en55:En 55:=fC Tryz.func55
theorem en57:En 57:=fC Tryz.func57
theorem en59:En 59:=fC Tryz.func59
theorem en62:En 62:=fC Tryz.func62
theorem en63:En 63:=fC Tryz.func63
theorem aPb:En 64:=fC Tryz.func64
theorem en65:En 65:=fC Tryz.func65
theorem en66:En 66:=fC Tryz.func66
theorem en67:En 67:=fC Tryz.func67
theorem aMi:En 69:=fC Tryz.func69
theorem en77:En 77:=fC Tryz.func77
theorem en82:En 82:=fC Tryz.func82
theorem en86:En 86:=fC Tryz.func86
theorem aSq:En 89:=fC Tryz.func89
theorem en93:En 93:=fC Tryz.func93
theorem en94:En 94:=fC Tryz.func94
theorem en95:En 95:=fC Tryz.func95
theorem en97:En 97:=fC Tryz.func97
theorem aFb:En 99:=fC Tryz.func99
theorem en100:En 100:=fC Tryz.func100
theorem en103:En 103:=fC Tryz.func103
theorem en109:En 109:=fC Tryz.func109
theorem en119:En 119:=fC Tryz.func119
theorem aTe:En 127:=fC Tryz.func127
theorem aNg:En 128:=fC Tryz.func128
theorem en129:En 129:=fC Tryz.func129
theorem en136:En 136:=fC Tryz.func136
theorem en141:En 141:=fC Tryz.func141
theorem aYn:En 148:=fC Tryz.func148
theorem en149:En 149:=fC Tryz.func149
theorem en150:En 150:=fC Tryz.func150
theorem en151:En 151:=fC Tryz.func151
theorem en152:En 152:=fC Tryz.func152
theorem en154:En 154:=fC Tryz.func154
theorem aYj:En 156:=fC Tryz.func156
theorem en164:En 164:=fC Tryz.func164
theorem en169:En 169:=fC Tryz.func169
theorem en170:En 170:=fC Tryz.func170
theorem en174:En 174:=fC Tryz.func174
theorem en176:En 176:=fC Tryz.func176
theorem en191:En 191:=fC Tryz.func191
theorem aNe:En 195:=fC Tryz.func195
theorem en201:En 201:=fC Tryz.func201
theorem en202:En 202:=fC Tryz.func202
theorem en205:En 205:=fC Tryz.func205
theorem en212:En 212:=fC Tryz.func212
theorem en245:En 245:=fC Tryz.func245
theorem en246:En 246:=fC Tryz.func246
theorem mixed:Tryz.prog.follows .mixedOrders=true:=by kernel_rfl
theorem aTj {b c d:Int}{r:Bool}(a:Fae b c d=some r)(H:Hd O w w S []):
  Rt 89 [i6 b,i6 c,i6 d] (vb r) w O S []:=by
 refine CW 15 Tryz.func89 ?_;refine SR<|zB (vb false)<|RM<|bE a λf a g=>sJ H (rg [6,9]) [(6,vb f)] ?_ ?_;refine zD<|zA (i6 b)<|zA (i6 c)<|jK a λh a=>RJ a (λa=>?_) (λa=>?_);refine zA (i6 b)<|zA (i6 d)<|uB a λe a=>pt (vb e)<|zB (vb e) ?_;cases a;exact jn<|mt () (H.U []);refine zM<|zM<|zM<|pf (vb false)<|zB (vb false) ?_;cases a;exact jn<|mt () (H.U []);rintro _ ρ i H;have a:=g;cases a;exact zJ<|p1z ⟨rfl,H.U []⟩
theorem Feww {a:Part}{c:Int}{d:Nat}{r:Bool}(b:Few a c=some r)(H:Hd O w w S [.blk d [i6 c] 3]):
  Rt 145 [.agg [i6 a.Frame,i6 a.Word,i6 a.Low,i6 a.Bits].toArray,gQ d] (vb r) w O S [.blk d [i6 c] 3]:=by
 refine CW 9 Tryz.func145 ?_;refine SR<|xb (yD (cs:=[i6 a.Frame,i6 a.Word,i6 a.Low,i6 a.Bits]) Z H) λf g H=>zB (vb false)<|RM<|SR<|Ld gX H 0 0 Z Z<|zH (aDq Z)<|Ld gX H 1 0 Z Z<|fE b λh b=>jK b λe b=>zB (vb e)<|RM ?_;cases b;exact zJ<|p1z ⟨Z,H.U [0]⟩
theorem Ff5w {f:List Part}{p1c0 r:Int}{c:Value}{d:Nat}(a:Ff5 f p1c0=some r)(H:Hd O w w S [.blk d [i6 p1c0] 3,aV c f]):
  Rt 193 [c,.func (.func 145) #[] #[gQ d]] (i6 r) w O S [.blk d [i6 p1c0] 3]:=by
 refine CW 19 Tryz.func193 ?_;refine SR<|zB (i6 0)<|RM<|jk a H (rg [4,15]) (λx (y:Unit)=>[]) (λx y=>[]) [0] (λ_ a=>?_) ?_;refine SR<|zA c<|ln a (H.im 1 Z) uM λt a=>zA (i6 0)<|RM<|zI<|lo a H (rg [4,2,8,11]) (λx (y:Unit)=>[(8,i6 x)]) (λx y=>[]) [0,1] () (H.U [0,1]) ?_;clear H a;rintro u b _ ρ v H a;have H:=un2 H;refine SR<|fG a λ_ a=>RM<|SQ<|WJ a (λa=>WZ<|SQ<|zI<|SR<|zA (i6 b)<|zB (i6 b)<|RM<|SR<|zA (.func (.func 145) #[] #[gQ d])<|zA c<|zA (i6 b)<|bE a λe g a=>?_) λa=>?_;obtain⟨h,i,A,B,j,k,l,m,n⟩:=yQ (H.im 1 Z) g;obtain rfl:=kQ k;have H:=H.fz (.at h (i+b.toNat*4) _) ⟨l,m,n⟩;refine ix uM kD j g<|zH (yE (zW (cs:=[i6 e.Frame,i6 e.Word,i6 e.Low,i6 e.Bits]) vT Z kD Z (H.im 2 Z).2.2) Z)<|bE a λC o a=>xP Z Z (eY (fC Tryz.func145) Z Z) (Feww o (H.W [0] [])) ?_;rintro _ D ⟨rfl,p⟩;have H:=un3<|H.back [0] [] Z p;refine⟨_,Z,?_⟩;refine RM<|WJ a (λa=>SR<|zA (i6 b)<|zB (i6 b)<|RM ?_) λa=>?_;cases a;exact zJ<|zN<|zF<|zF<|zN<|zF<|p1z ⟨Z,H.U [2]⟩;exact yI<|zO<|zG<|KN<|zD<|fE a λq a=>zA (i6 q)<|jn<|me a () (H.U [2,0]);exact zX<|zL<|zL<|zS<|zG<|me a () (H.U [0]);rintro _ _ ρ _ H a;have H:=un1 H;refine SR<|zB (i6 (-1))<|RM ?_;cases a;exact zJ<|p1z ⟨Z,H.U [0]⟩
theorem Fb7w {d:List Part}{p1c0:Int}{c:Value}{b:Nat}{r:Bool}(a:Fb7 d p1c0=some r)(H:Hd O w w S [.blk b [i6 p1c0] 3,aV c d]):
  Rt 144 [c,.func (.func 145) #[] #[gQ b]] (vb r) w O S [.blk b [i6 p1c0] 3]:=by
 refine CW 9 Tryz.func144 ?_;refine SR<|zB (vb false)<|RM<|SR<|zA c<|zA (.func (.func 145) #[] #[gQ b])<|bE a λh e a=>cAz (fC Tryz.func193) (Ff5w e (H.W [0] [1])) λi f=>?_;have H:=un2<|H.back [0] [1] Z f;refine jK a λg a=>zB (vb g)<|RM ?_;cases a;exact zJ<|p1z ⟨Z,H.U [1]⟩
theorem Fbiw {b:Param}{c d:Value}{r:(List Int)}(a:Fbi b=some r)(H:Hd O w w S [aV c b.Parts,dD d b.Names]):
  Cl 93 [.agg [sb b.Name,i6 b.Kind,c,i6 b.First,i6 b.Every,i6 b.Times,i6 b.Step,d].toArray] w λe l=> ∃u5,e= .returned (u5)/\Hd O w l S [.own (Rp.int .i64) u5 3 r]:=by
 refine CW 24 Tryz.func93 ?_;refine SR<|xb (yD (cs:=[sb b.Name,i6 b.Kind,c,i6 b.First,i6 b.Every,i6 b.Times,i6 b.Step,d]) Z H) λD _ H=>zB (.slice none 0 0)<|RM<|SR<|zB (.slice none 0 0)<|RM<|bE a λm a n=>jo H (rg [3,20]) (λ(g:Value)=>[(3,g)]) (λg=>[.own (Rp.int .i64) g 3 m]) [0] ?_ ?_;refine SR<|zH (aJi Z)<|Ld gX H 2 3 Z Z<|xb (zY zero3 H) λo _ H=>xu (yT H 3 Z sz3 Z (v:=i6 b.First) Z Z Z) λ_ H=>RM<|zI ?_;have H:=xO H (Rp.int .i64) 3;refine lo a H (rg [3,2,7,16]) (λx (y:Value×Nat)=>[(3,y.1),(4,.pointer (some ⟨y.2,0,none⟩))]) (λx y=>[.own (Rp.int .i64) y.1 3 x.1,.blk y.2 [i6 x.2] 3]) (rg [0,5]) (.slice none 0 0,o) (H.U [4,3,0,1,2]) ?_;clear H a;rintro _ ⟨_,j⟩ ⟨f,_⟩ ρ _ H a;have H:=un5 H;refine SQ<|SR<|Ld gX H 1 0 Z Z<|fG a λ_ a=>RM<|WJ a (λa=>WZ<|bE a λp a q=>jo H (rg [3,1,13,9]) (λ(g:Value)=>[(3,g)]) (λg=>[.own (Rp.int .i64) g 3 p]) [0,2,3,4,5] ?_ ?_) λa=>?_;refine zI<|SR<|zH (jX Z)<|Ld rD H 4 2 Z Z<|zH (xE Z)<|bE a λN s a=>cAz (fC Tryz.func144) (Fb7w s (H.W [1] [2])) λP t=>?_;have H:=un5<|H.back [1] [2] Z t;refine eQ a λQ a=>RM<|WJ a (λa=>zD<|zA f<|Ld gX H 4 0 Z Z<|lE a λ_ u a=>?_) λa=>?_;subst u;refine xv (kl kInt [j] vH el3 H) λT U H=>bE a λV z a=>xv (wI H (i:=0) Z vH el3 Z Z (Sr.xI (H.im 5 Z)) z) λk X H=>zB k ?_;cases a;exact yN<|zO<|zG<|mt k (H.U [0,4,1,2,3]);cases a;exact yI<|zO<|zG<|mt f (H.U [0,4,1,2,3])
 rintro A ρ Y H;have H:=un5 H;have a:=q;exact SQ<|SR<|Ld gX H 1 0 Z Z<|RM<|zD<|xb (zY zero3 H) λB _ H=>xu (yT H 5 Z sz3 Z (v:=i6 j) Z Z Z) λ_ H=>RM<|zD<|Ld gX H 5 0 Z Z<|zH (aDk Z)<|Ld gX H 4 4 Z Z<|fE a λC a=>xu (yT H 5 Z sz3 Z (v:=i6 C) Z Z Z) λ_ H=>jn<|me a (A,B) (H.U [0,5,2,3,4]);cases a;exact zX<|zL<|zL<|zS<|zG<|mt f (H.U [0]);rintro h ρ _ H;have H:=un1 H;have a:=n;refine SR<|zA h<|zB h<|RM ?_;cases a;exact zJ<|p1z ⟨h,Z,H.U [0]⟩
theorem Felw {a:Param}{b:Part}{d e:Int}{f g:Value}{r:fH}(c:Fel a b d e=some r)(H:Hd O w w S [aV f a.Parts,dD g a.Names]):
  Rt 146 [.agg [sb a.Name,i6 a.Kind,f,i6 a.First,i6 a.Every,i6 a.Times,i6 a.Step,g].toArray,.agg [i6 b.Frame,i6 b.Word,i6 b.Low,i6 b.Bits].toArray,i6 d,i6 e] (.agg [i6 r.Frame,i6 r.Word,i6 r.Low,i6 r.Bits].toArray) w O S []:=by
 refine CW 25 Tryz.func146 ?_;refine SR<|xb (yD (cs:=[sb a.Name,i6 a.Kind,f,i6 a.First,i6 a.Every,i6 a.Times,i6 a.Step,g]) Z H) λj k H=>xb (yD (cs:=[i6 b.Frame,i6 b.Word,i6 b.Low,i6 b.Bits]) Z H) λl m H=>xb (zY aGi H) λn o H=>RM<|SR<|zA (i6 d)<|zH (aDq Z)<|Ld gX H 3 0 Z Z<|fE c λh c=>zH (aDc Z)<|Ld gX H 3 1 Z Z<|zA (i6 e)<|zH (sK Z)<|Ld gX H 2 6 Z Z<|vU c λp c=>fE c λi c=>zH (aDj Z)<|Ld gX H 3 2 Z Z<|zH (aDp Z)<|Ld gX H 3 3 Z Z<|zH (yR (cs:=[i6 h,i6 i,i6 b.Low,i6 b.Bits]) (aEk _ _ _ _))<|xu (zT (vs:=[i6 h,i6 i,i6 b.Low,i6 b.Bits]) H 4 Z sS Z Z Z ⟨Z,Z,Z,Z,T1⟩ Z) λq H=>RM ?_;cases c;exact zJ<|kY Z Z (yA aGu sS Z (Hbc H 4 Z)) ⟨Z,H.U []⟩
theorem Fa2w {k:Int}{b:Param}{m n:Value}{r:(List Cell)}(a:Fa2 k b=some r)(H:Hd O w w S [aV m b.Parts,dD n b.Names]):
  Cl 94 [i6 k,.agg [sb b.Name,i6 b.Kind,m,i6 b.First,i6 b.Every,i6 b.Times,i6 b.Step,n].toArray] w λe h=> ∃u5,e= .returned (u5)/\Hd O w h S [.own dQ u5 136 r]:=by
 refine CW 54 Tryz.func94 ?_;refine SR<|xb (yD (cs:=[sb b.Name,i6 b.Kind,m,i6 b.First,i6 b.Every,i6 b.Times,i6 b.Step,n]) Z H) λ_ _ H=>zB (.slice none 0 0)<|RM<|SR<|zB (.slice none 0 0)<|RM<|bE a λE a F=>jo H (rg [5,1,7,3,11,42]) (λ(g:Value)=>[(5,g)]) (λg=>[.own dQ g 136 E]) [0] ?_ ?_;refine SR<|lb H 2 Z fZ fM<|bE a λ_ G a=>cAa en93 (Fbiw G (H.W [] [0,1])) λ_ a0 I=>?_;have H:=H.back1 [0,1] Z I;obtain⟨_,a2,J⟩:=Sr.len (Sr.xI (H.im 3 Z));refine RLi a (dO vH J) λa3 a=>zA (i6 0)<|RM<|zI ?_;have H:=xO H dQ 136;refine lo a H (rg [5,1,7,3,11,1,15,38]) (λx (y:Value)=>[(5,y),(15,i6 x.2)]) (λx y=>[.own dQ y 136 x.1]) (rg [0,5]) (.slice none 0 0) (H.U [4,0,1,2,3]) ?_;clear H a;rintro a4 ⟨a5,_⟩ u ρ _ H a;have H:=un5 H;refine SR<|fG a λ_ a=>RM<|SQ<|WJ a (λa=>WZ<|bE a λK a L=>jo H (rg [5,1,7,3,11,1,17,35]) (λ(g:Value)=>[(5,g)]) (λg=>[.own dQ g 136 K]) [0,2,3,4,5] ?_ ?_) λa=>?_;refine zI<|SR<|bE a λj z a=>?_;obtain⟨a9,_,M,N,P,Q⟩:=pR (H.im 4 Z) z;obtain rfl:M=[i6 j]:=P;refine ix vH sz3 N z<|zH (yL gX Z (Cells.get Q (i:=0) Z))<|zB (i6 j)<|RM<|SR<|zH (nC Z)<|Ld gX H 3 5 Z Z<|zA (i6 0)<|RM<|zI<|lo a H (rg [5,1,8,2,11,1,21,31]) (λx (y:Value)=>[(5,y),(21,i6 x.2)]) (λx y=>[.own dQ y 136 x.1]) [0,2,3,4,5] u (H.U (rg [0,5])) ?_;clear H a;rintro _ ⟨_,o⟩ p ρ _ H a;have H:=un5 H;refine SR<|fG a λ_ a=>RM<|SQ<|WJ a (λa=>WZ<|bE a λR a T=>jo H (rg [5,1,8,2,11,1,23,28]) (λ(g:Value)=>[(5,g)]) (λg=>[.own dQ g 136 R]) [0,2,3,4,5] ?_ ?_) λa=>?_
 refine zI<|SR<|zA (i6 o)<|zB (i6 o)<|RM<|SR<|zA (i6 k)<|zA p ?_;obtain⟨bf,_,U⟩:=Sr.len (Sr.xI (H.im 0 Z));refine RLi a (dO nT U) λl a=>zA (i6 j)<|zH (yR (cs:=[i6 k,i6 l,i6 j,.slice none 0 0]) (aIg _ _ _))<|xb (zY aBu H) λA _ H=>xu (zT (vs:=[i6 k,i6 l,i6 j,.slice none 0 0]) H 5 Z jB Z Z Z ⟨Z,Z,Z,Z,T1⟩ Z) λ_ H=>RM<|bE a λs a V=>jo H (rg [11,1,29,18]) (λ(g:Value)=>[]) (λg=>[.blk A [i6 k,i6 l,i6 j,g] 136,.own dA g 175 s]) (rg [2,5,0,2]) ?_ ?_;refine SR<|zH (jX Z)<|Ld rD H 3 2 Z Z<|ln a (H.im 1 Z) uM λ_ a=>zA (i6 0)<|RM<|zI ?_;have H:=xO H dA 175;refine lo a H (rg [11,1,32,15]) (λx (y:Value)=>[(32,i6 x.1)]) (λx y=>[.blk A [i6 k,i6 l,i6 j,y] 136,.own dA y 175 x.2]) (rg [2,5,0,2]) (.slice none 0 0) (H.U (rg [0,7])) ?_;clear H a;rintro _ ⟨X,_⟩ Y ρ _ H a;have H:=un7 H;refine SR<|fG a λ_ a=>RM<|SQ<|WJ a (λa=>WZ<|SQ<|zI<|SR<|bE a λf B a=>?_) λa=>?_;obtain⟨aa,ab,_,_,ac,ad,ae,af,ag⟩:=yQ (H.im 1 Z) B;obtain rfl:=kQ ad;have H:=H.fz (.at aa (ab+X.toNat*4) _) ⟨ae,af,ag⟩;refine ix uM kD ac B<|zH (yE (zW (cs:=[i6 f.Frame,i6 f.Word,i6 f.Low,i6 f.Bits]) vT Z kD Z (H.im 7 Z).2.2) Z)<|xb (zY uS H) λ_ _ H=>xu (zT (vs:=[i6 f.Frame,i6 f.Word,i6 f.Low,i6 f.Bits]) H 8 Z kD Z Z Z ⟨Z,Z,Z,Z,T1⟩ Z) λ_ H=>RM ?_;have ah:=H;have H:=H.rb;have bu:=H;refine xH H (rg [0,11]) (kz [0,1,1,1,0,0,1,2,3,0,3]) mixed ?_;refine XQ (nI Z)<|XR vK H 5 3 Z Z<|MxM.yJ oS Z Z Z (λh d=>yE (zW (cs:=[sb b.Name,i6 b.Kind,m,i6 b.First,i6 b.Every,i6 b.Times,i6 b.Step,n]) fZ Z fM Z (Blk.cells ((H.Z d).V (i:=3) Z))) Z)<|MxM.yJ oS Z Z Z (λh d=>yE (zW (cs:=[i6 f.Frame,i6 f.Word,i6 f.Low,i6 f.Bits]) vT Z kD Z (Blk.cells ((H.Z d).V (i:=8) Z))) Z) ?_
 refine XM (i6 j)<|XM (i6 o) ?_;have ai:=H;refine bE a λc aj a=>MxM.XL_call oS Z Z Z (v:= .agg [i6 c.Frame,i6 c.Word,i6 c.Low,i6 c.Bits].toArray) (λh d=>yK (fC Tryz.func146) Z) (λh d=>by have q:=xM (Felw aj ((H.Z d).W [] [1,2]));exact q) ?_;have H:=ai;refine lE a λ_ ak a=>?_;subst ak;refine MxM.XL_exN oS Z Z Z (λh d=>aIb (sW dA c [i6 c.Frame,i6 c.Word,i6 c.Low,i6 c.Bits] aDy aRz (aKs (x:=c)) (H.Z d)) (aIa (cs:=[i6 c.Frame,i6 c.Word,i6 c.Low,i6 c.Bits]) aDy aRz (by decide) (by decide) (kK (vs:=[.agg [i6 c.Frame,i6 c.Word,i6 c.Low,i6 c.Bits].toArray]) (by decide) Z Z ⟨Z,T1⟩ Z))) ?_;rintro h _ _ d H;refine bE a λ_ al a=>Xe (λh d=>wI (H.Z d) (i:=6) Z aDy aRz Z Z (Sr.xI ((H.Z d).V (i:=9) Z)) al) λh C _ d H=>XQ (nI Z)<|Xu (λh d=>yT (H.Z d) 5 Z sz134 Z (v:=C) Z (dE ((H.Z d).V (i:=6) Z)) Z) λh _ d H=>nJ ah H λ_ H=>?_;refine zO (zG (KN ?_));exact zD<|fE a λam a=>zA (i6 am)<|jn<|me a C (H.U (rg [0,7]));cases a;exact zX<|zL<|zL<|zS<|zG<|mt Y (H.U (rg [0,7]));rintro an ρ _ H;have H:=un7 H;have a:=V;refine zD<|zA p<|lb H 5 Z vG jB ?_;have H:=H.freeze (i:=6) Z;refine lE a λ_ ao a=>?_;subst ao;refine xv (sW dQ (Cell.mk k l j s) [i6 k,i6 l,i6 j,an] nT aIe (aLf (x:=Cell.mk k l j s) (H.im 6 Z)) H) λ_ _ H=>bE a λ_ ap a=>xv (wI H (i:=0) Z nT aIe Z Z (Sr.xI (H.im 7 Z)) ap) λD _ H=>zB D ?_;cases a;exact yN<|zO<|zG<|mt D (H.U (rg [0,5]))
 rintro aq ρ _ H;have H:=un5 H;have a:=T;exact zD<|fE a λar a=>zA (i6 ar)<|jn<|me a aq (H.U (rg [0,5]));cases a;exact zX<|zL<|zL<|zS<|zO<|zG<|mt p (H.U (rg [0,5]));rintro au ρ _ H;have H:=un5 H;have a:=L;exact zD<|fE a λav a=>zA (i6 av)<|jn<|me a au (H.U (rg [0,5]));cases a;exact zX<|zL<|zL<|zS<|zG<|mt u (H.U [0]);rintro t ρ _ H;have H:=un1 H;have a:=F;refine SR<|zA t<|zB t<|RM ?_;cases a;exact zJ<|p1z ⟨t,Z,H.U [0]⟩
theorem Fb9w {b:fH}{r:(List fB)}(a:Fb9 b=some r)(H:Hd O w w S []):
  Cl 147 [.agg [i6 b.Frame,i6 b.Word,i6 b.Low,i6 b.Bits].toArray] w λe l=> ∃h,e= .returned (h)/\Hd O w l S [.own qB h 213 r]:=by
 refine CW 24 Tryz.func147 ?_;refine SR<|xb (yD (cs:=[i6 b.Frame,i6 b.Word,i6 b.Low,i6 b.Bits]) Z H) λ_ t H=>zB (.slice none 0 0)<|RM<|SR<|zB (.slice none 0 0)<|RM<|bE a λm a n=>jo H (rg [3,20]) (λ(g:Value)=>[(3,g)]) (λg=>[.own qB g 213 m]) [0] ?_ ?_;refine SR<|zH (aDm Z)<|Ld gX H 0 3 Z Z<|zA (i6 0)<|RM<|zI ?_;have H:=xO H qB 213;refine lo a H (rg [3,2,7,16]) (λx (y:Value)=>[(3,y),(7,i6 x.2)]) (λx y=>[.own qB y 213 x.1]) [0,1] (.slice none 0 0) (H.U [1,0]) ?_;clear H a;rintro u ⟨v,d⟩ j ρ _ H a;have H:=un2 H;refine SR<|fG a λA a=>RM<|SQ<|WJ a (λa=>WZ<|SQ<|zI<|SR<|zA (i6 d)<|zB (i6 d)<|RM<|zD<|zA j<|zH (aFy Z)<|Ld gX H 1 0 Z Z<|zH (aCy Z)<|Ld gX H 1 1 Z Z<|zH (aFu Z)<|Ld gX H 1 2 Z Z<|zA (i6 d)<|fE a λc a=>zH (yR (cs:=[i6 b.Frame,i6 b.Word,i6 c]) (aSr _ _ _))<|lE a λB o a=>?_) λa=>?_;subst o;refine xv (sW qB (fB.mk b.Frame b.Word c) [i6 b.Frame,i6 b.Word,i6 c] u210 el213 (aMp (x:=fB.mk b.Frame b.Word c)) H) λC D H=>bE a λ_ p a=>xv (wI H (i:=0) Z u210 el213 Z Z (Sr.xI (H.im 2 Z)) p) λk _ H=>zB k<|(yN (zO (zG (KN ?_))));exact zD<|fE a λq a=>zA (i6 q)<|jn<|me a k (H.U [0,1]);cases a;exact zX<|zL<|zL<|zS<|zG<|mt j (H.U [0]);rintro f ρ _ H;have H:=un1 H;have a:=n;refine SR<|zA f<|zB f<|RM ?_;cases a;exact zJ<|p1z ⟨f,Z,H.U [0]⟩
theorem Fbmw {j:List (fB×Int)}{f:Int}{l:List fH}{b:Nat}{h:Value}{r:Bool×(List (fB×Int))}(a:Fbm j f l=some r)(H:Hd O w w S [.mp b (eH dF (λv=>Value.int .i64 v) j),f1 dA h l]):
  Rt 95 [.map (some b),i6 f,h] (vb r.1) w O S [.mp b (eH dF (λv=>Value.int .i64 v) r.2)]:=by
 refine CW 38 Tryz.func95 ?_;refine SR<|zB (vb false)<|RM<|jk a H (rg [6,1,8,1,10,28]) (λx (y:Unit)=>[]) (λx y=>[.mp b (eH dF (λv=>Value.int .i64 v) x)]) [0] (λT a=>?_) ?_;refine SR<|zA h<|ln a (H.im 1 Z) aDy λU a=>zA (i6 0)<|RM<|zI<|lo a H (rg [6,1,8,1,10,3,15,23]) (λx (y:Unit)=>[(15,i6 x.1)]) (λx y=>[.mp b (eH dF (λv=>Value.int .i64 v) x.2)]) [0,2] () (H.U [0,1]) ?_;clear H a;rintro V ⟨q,X⟩ _ ρ Y H a;have H:=un2 H;refine SR<|fG a λ_ a=>RM<|SQ<|WJ a (λa=>WZ<|jk a H (rg [6,1,8,1,10,3,17,20]) (λx (y:Unit)=>[]) (λx y=>[.mp b (eH dF (λv=>Value.int .i64 v) x)]) [0,2] (λ_ a=>?_) ?_) λa=>?_;refine zI<|SR<|bE a λc n a=>?_;obtain⟨s,t,_,_,u,z,A,B,C⟩:=yQ (H.im 1 Z) n;obtain rfl:=nD z;have H:=H.fz (.at s (t+q.toNat*4) _) ⟨A,B,C⟩;refine ix aDy sS u n<|zH (yE (zW (cs:=[i6 c.Frame,i6 c.Word,i6 c.Low,i6 c.Bits]) aGu Z sS Z (H.im 2 Z).2.2) Z)<|xb (zY aGi H) λ_ af H=>xu (zT (vs:=[i6 c.Frame,i6 c.Word,i6 c.Low,i6 c.Bits]) H 3 Z sS Z Z Z ⟨Z,Z,Z,Z,T1⟩ Z) λ_ H=>RM<|SR<|lb H 3 Z aGu sS<|bE a λ_ D a=>cAa (fC Tryz.func147) (Fb9w D (H.W [] [])) λ_ _ E=>?_;have H:=H.back1 [] Z E;obtain⟨_,_,F⟩:=Sr.len (Sr.xI (H.im 4 Z));refine RLi a (dO u210 F) λ_ a=>zA (i6 0)<|RM<|zI<|lo a H (rg [6,1,10,3,22,15]) (λx (y:Unit)=>[(22,i6 x.1)]) (λx y=>[.mp b (eH dF (λv=>Value.int .i64 v) x.2)]) [0,2,5] () (H.U [0,1,4]) ?_;clear H a;rintro _ ⟨_,o⟩ _ ρ _ H a
 have H:=un3 H;refine SR<|fG a λ_ a=>RM<|SQ<|WJ a (λa=>WZ<|SQ<|zI<|SR<|bE a λd p a=>?_) λa=>?_;obtain⟨_,_,_,I,J,K⟩:=pR (H.im 2 Z) p;obtain rfl:=aIh J;refine ix u210 aNj I p<|zH (yE (zW (cs:=[i6 d.frame,i6 d.word,i6 d.bit]) aQb Z aNj Z K) Z)<|xb (zY zero213 H) λ_ _ H=>xu (zT (vs:=[i6 d.frame,i6 d.word,i6 d.bit]) H 3 Z aNj Z Z Z ⟨Z,Z,Z,T1⟩ Z) λL H=>RM<|SQ<|SR<|zA (.map (some b))<|lb H 3 Z aQb aNj<|lE a λi M a=>lE a λg N a=>zH (aSz (e:=dF) (G:=(λv=>Value.int .i64 v)) (m:=o) (k:=d) (zv:=0) wk213 (H.im 0 Z) u161 Z Z (Tryz.zeroValue3 L) M N)<|zA (.tuple #[i6 i,vb g])<|zH (zV (v:=i6 i) Z Z)<|zH (zV (v:=vb g) Z Z)<|zB (i6 i)<|zB (vb g)<|RM<|SQ<|zD<|zA (vb g)<|RM<|WJ a (λa=>SR<|zB (vb false)<|RM ?_) λa=>?_;cases a;exact zJ<|zF<|zN<|zF<|zF<|zN<|zN<|zF<|zF<|zN<|zF<|p1z ⟨Z,H.U [0]⟩;exact WZ<|zD<|zA (.map (some b))<|lb H 3 Z aQb aNj<|zA (i6 f)<|lE a λ_ P a=>xu (aBt (e:=dF) (G:=(λv=>Value.int .i64 v)) (m:=o) (k:=d) (v:=f) wk213 H 0 Z u161 Z Z Z P) λ_ H=>yN<|zO<|zG<|KN<|zD<|fE a λQ a=>zA (i6 Q)<|jn<|me a () (H.U [0,1,2]);exact zX<|zL<|zL<|zS<|zO<|zG<|me a () (H.U [0,1]);rintro a0 _ ρ _ H a;have H:=un2 H;exact zD<|fE a λR a=>zA (i6 R)<|jn<|me a () (H.U [0,1]);exact zX<|zL<|zL<|zS<|zG<|me a () (H.U [0]);rintro a2 _ ρ a3 H a;have H:=un1 H;refine SR<|zB (vb true)<|RM ?_;cases a;exact zJ<|p1z ⟨Z,H.U [0]⟩
theorem Fgkw {b:Int}{r:Bool}(a:Fgk b=some r)(H:Hd O w w S []):
  Rt 190 [.int .i32 b] (vb r) w O S []:=by
 refine CW 22 Tryz.func190 ?_;refine SR<|zB (vb false)<|RM<|bE a λd a e=>sJ H (rg [2,20]) [(2,vb d)] ?_ ?_;refine zD<|zA (.int .i32 b)<|jK a λm a=>bE a λf a g=>yY 4 [5,6,7,8] [(8,vb f)] (λwl=>Hd O w wl S []) ?_ ?_;refine RJ a (λa=>zA (.int .i32 b)<|uB a λh a=>pt (vb h) ?_) λa=>?_;cases a;exact jn<|meet ⟨(yB Z yG),H.U []⟩;refine zM<|zM<|pf (vb false) ?_;cases a;exact jn<|meet ⟨(yB Z yG),H.U []⟩;rintro ρ n H;have a:=g;refine bE a λi a j=>yY 8 [9,10,11,12,13,14,15,16] [(16,vb i)] (λwl=>Hd O w wl S []) ?_ ?_;refine RJ a (λa=>zM<|zM<|zM<|zM<|zM<|zM<|pt (vb true) ?_) λa=>?_;cases a;exact jn<|meet ⟨(yB Z yG),H.U []⟩;refine zA (.int .i32 b)<|jK a λo a=>RJ a (λa=>zA (.int .i32 b)<|uB a λc a=>pt (vb c)<|pf (vb c) ?_) λa=>?_;cases a;exact jn<|meet ⟨(yB Z yG),H.U []⟩;refine zM<|zM<|pf (vb false)<|pf (vb false) ?_;cases a;exact jn<|meet ⟨(yB Z yG),H.U []⟩;rintro ρ q H;have a:=j;refine RJ a (λa=>zM<|zM<|pt (vb true)<|zH (tX (p:=true) Z)<|zB (vb false) ?_) λa=>?_;cases a;exact jn<|mt () (H.U []);refine zA (.int .i32 b)<|eG a λk a=>pf (vb k)<|eQ a λl a=>zB (vb l) ?_;cases a;exact jn<|mt () (H.U []);rintro _ ρ _ H;have a:=e;cases a;exact zJ<|p1z ⟨Z,H.U []⟩
theorem bad_p (x:Nat):Fgk (x:Int)=some (!aW x):=by
 have a:decide (97<=(x:Int))=decide (97<=x):=decide_eq_decide.2 (by omega);have b:decide ((x:Int)<=122)=decide (x<=122):=decide_eq_decide.2 (by omega);have c:decide (48<=(x:Int))=decide (48<=x):=decide_eq_decide.2 (by omega);have d:decide ((x:Int)<=57)=decide (x<=57):=decide_eq_decide.2 (by omega);have e:decide ((x:Int)=45)=decide (x=45):=decide_eq_decide.2 (by omega);unfold Fgk aW;rw [a];simp only [b,c,d,e];generalize decide (97<=x)=f;generalize decide (x<=122)=g;generalize decide (48<=x)=h;generalize decide (x<=57)=i;generalize decide (x=45)=j;cases f<;>cases g<;>cases h<;>cases i<;>cases j<;>rfl
theorem Fki {a:Str}{r:Bool}(b:Fe9 a=some r)(H:Hd O w w S []):
  Rt 189 [sb a,.func (.func 190) #[] #[]] (vb r) w O S []:=by
 have hr:=oI b;subst hr;have hp:Go.Proofs.PredGrows Tryz.prog 190 #[] (λx=> !aW x) w:=λW x hx _=>by
  exact(Fgkw (bad_p x) (Hd.fresh0 W)).mono λe c h=>⟨h.1,h.2.only.below⟩
 refine(Go.Proofs.Any.strings_ContainsFunc_grows aVv 190 #[] (Go.Proofs.enters_of Tryz.func190 (by kernel_rfl) rfl) (λx=> !aW x) (bs a) w hp).mono λe c h=>⟨?_,H.step (Only.of_below h.2)⟩
 rw [h.1]
 congr 2
 unfold Go.Lib.idxFunc;rw [aWk (λx hx=>?_) a _ 0 (by simp [bs,ByteArray.size]),List.drop_zero];unfold aW;simp;omega
theorem Fb4w {b:Str}{r:Bool}(a:Fb4 b=some r)(H:Hd O w w S []):
  Rt 141 [sb b] (vb r) w O S []:=by
 refine CW 24 Tryz.func141 ?_;refine SR<|zB (vb false)<|RM<|SQ<|bE a λc a d=>sJ H (rg [3,18]) [(20,vb c)] ?_ ?_;refine zD<|zA (sb b)<|RLi a (aN (s1:=b) u9 Z) λp a=>fG a λ_ a=>bE a λe a f=>yY 5 [6,7,8,9,10] [(10,vb e)] (λwl=>Hd O w wl S []) ?_ ?_;refine RJ a (λa=>zM<|zM<|zM<|pt (vb true) ?_) λa=>?_;cases a;exact jn<|meet ⟨(yB Z yG),H.U []⟩;refine zA (sb b)<|RLi a (aN (s1:=b) u9 Z) λt a=>dY a λg a=>pf (vb g) ?_;cases a;exact jn<|meet ⟨(yB Z yG),H.U []⟩;rintro ρ u H;have a:=f;refine bE a λh a i=>yY 5 [11,12,13,14,15] [(15,vb h)] (λwl=>Hd O w wl S []) ?_ ?_;refine RJ a (λa=>zM<|zM<|zM<|pt (vb true) ?_) λa=>?_;cases a;exact jn<|meet ⟨(yB Z yG),H.U []⟩;refine zA (sb b)<|bE a λv j a=>zH (qV (s1:=b) (q:=0) u9 Z Z j)<|fG a λk a=>pf (vb k) ?_;cases a;exact jn<|meet ⟨(yB Z yG),H.U []⟩;rintro ρ x H;have a:=i;refine RJ a (λa=>zM<|zM<|zM<|pt (vb true) ?_) λa=>?_;cases a;exact jn<|mt () (H.U []);refine zA (sb b)<|bE a λy l a=>zH (qV (s1:=b) (q:=0) u9 Z Z l)<|dY a λm a=>pf (vb m) ?_;cases a;exact jn<|mt () (H.U []);rintro _ ρ _ H;have a:=d;refine WJ a (λa=>SR<|zB (vb false)<|RM ?_) λa=>?_;cases a;exact zJ<|zF<|p1z ⟨Z,H.U []⟩;refine WZ<|SR<|zA (sb b)<|bE a λA n a=>RC (fC Tryz.func189) (Fki n (H.W [] [])) H λB H=>eQ a λo a=>zB (vb o)<|RM ?_;cases a;exact zJ<|p1z ⟨Z,H.U []⟩
theorem Fanw {b:Param}{d e:Value}{r:Int}(a:Fan b=some r)(H:Hd O w w S [aV d b.Parts,dD e b.Names]):
  Rt 191 [.agg [sb b.Name,i6 b.Kind,d,i6 b.First,i6 b.Every,i6 b.Times,i6 b.Step,e].toArray] (i6 r) w O S []:=by
 refine CW 19 Tryz.func191 ?_;refine SR<|xb (yD (cs:=[sb b.Name,i6 b.Kind,d,i6 b.First,i6 b.Every,i6 b.Times,i6 b.Step,e]) Z H) λv _ H=>zB (i6 0)<|RM<|SR<|zB (i6 0)<|RM<|bE a λf a i=>jo H (rg [3,1,5,13]) (λ(g:Unit)=>[(3,i6 f)]) (λg=>[]) [] ?_ ?_;refine SR<|zH (jX Z)<|Ld rD H 2 2 Z Z<|ln a (H.im 0 Z) uM λA a=>zA (i6 0)<|RM<|zI<|lo a H (rg [3,1,5,1,9,9]) (λx (y:Unit)=>[(3,i6 x.1),(9,i6 x.2)]) (λx y=>[]) [0] () (H.U [0]) ?_;clear H a;rintro B ⟨j,k⟩ _ ρ C H a;have H:=un1 H;refine SR<|fG a λD a=>RM<|SQ<|WJ a (λa=>WZ<|SQ<|zI<|SR<|bE a λc h a=>?_) λa=>?_;obtain⟨l,m,_,_,n,o,p,q,s⟩:=yQ (H.im 0 Z) h;obtain rfl:=kQ o;have H:=H.fz (.at l (m+k.toNat*4) _) ⟨p,q,s⟩;refine ix uM kD n h<|zH (yE (zW (cs:=[i6 c.Frame,i6 c.Word,i6 c.Low,i6 c.Bits]) vT Z kD Z (H.im 1 Z).2.2) Z)<|xb (zY uS H) λ_ _ H=>xu (zT (vs:=[i6 c.Frame,i6 c.Word,i6 c.Low,i6 c.Bits]) H 2 Z kD Z Z Z ⟨Z,Z,Z,Z,T1⟩ Z) λ_ H=>RM<|zD<|zA (i6 j)<|zH (aDp Z)<|Ld gX H 2 3 Z Z<|fE a λt a=>zB (i6 t)<|(yN (zO (zG (KN ?_))));exact zD<|fE a λu a=>zA (i6 u)<|jn<|me a () (H.U [0]);cases a;exact zX<|zL<|zL<|zS<|zG<|mt () (H.U []);rintro _ ρ _ H;have a:=i;refine SR<|zA (i6 f)<|zB (i6 f)<|RM ?_;cases a;exact zJ<|p1z ⟨Z,H.U []⟩
theorem Ferw {e:List Int}{d r:Int}{c:Value}(a:Fer e d=some r)(H:Hd O w w S [aLr c e]):
  Rt 229 [c,i6 d] (i6 r) w O S []:=by
 refine CW 19 Tryz.func229 ?_;refine SR<|zB (i6 0)<|RM<|jk a H (rg [4,15]) (λx (y:Unit)=>[]) (λx y=>[]) [] (λi a=>?_) ?_;refine SR<|zA c<|ln a (H.im 0 Z) vH λj a=>zA (i6 0)<|RM<|zI<|lo a H (rg [4,2,8,11]) (λx (y:Unit)=>[(8,i6 x)]) (λx y=>[]) [0] () (H.U [0]) ?_;clear H a;rintro k b _ ρ l H a;have H:=un1 H;refine SR<|fG a λm a=>RM<|SQ<|WJ a (λa=>WZ<|SQ<|zI<|SR<|zA (i6 b)<|zB (i6 b)<|RM<|SR<|zA (i6 d)<|zA c<|zA (i6 b)<|bE a λf g a=>rea H (H.im 0 Z) (i6 f) g vH sz3 gX λn o H=>eG a λp a=>RM<|WJ a (λa=>SR<|zA (i6 b)<|zB (i6 b)<|RM ?_) λa=>?_) λa=>?_;cases a;exact zJ<|zN<|zF<|zF<|zN<|zF<|p1z ⟨Z,H.U []⟩;exact yI<|zO<|zG<|KN<|zD<|fE a λh a=>zA (i6 h)<|jn<|me a () (H.U [0]);exact zX<|zL<|zL<|zS<|zG<|me a () (H.U []);rintro _ _ ρ q H a;refine SR<|zB (i6 (-1))<|RM ?_;cases a;exact zJ<|p1z ⟨Z,H.U []⟩
theorem Fb8w {d:List Int}{b:Int}{c:Value}{r:Bool}(a:Fb8 d b=some r)(H:Hd O w w S [aLr c d]):
  Rt 192 [c,i6 b] (vb r) w O S []:=by
 refine CW 9 Tryz.func192 ?_;refine SR<|zB (vb false)<|RM<|SR<|zA c<|zA (i6 b)<|bE a λg e a=>RC (fC Tryz.func229) (Ferw e (H.W [] [0])) H λh H=>jK a λf a=>zB (vb f)<|RM ?_;cases a;exact zJ<|p1z ⟨Z,H.U []⟩
theorem Fcww {b:Param}{d e:Value}{r:Int}(a:Fcw b=some r)(H:Hd O w w S [aV d b.Parts,dD e b.Names]):
  Rt 142 [.agg [sb b.Name,i6 b.Kind,d,i6 b.First,i6 b.Every,i6 b.Times,i6 b.Step,e].toArray] (i6 r) w O S []:=by
 refine CW 112 Tryz.func142 ?_;refine SR<|xb (yD (cs:=[sb b.Name,i6 b.Kind,d,i6 b.First,i6 b.Every,i6 b.Times,i6 b.Step,e]) Z H) λh _ H=>zB (i6 0)<|RM<|SQ<|zI<|SR<|zH (jX Z)<|Ld rD H 2 2 Z Z<|ln a (H.im 0 Z) uM λ_ a=>eG a λu a=>zB (vb u)<|RM<|WJ a (λa=>SR<|zB (i6 13)<|RM ?_) λa=>?_;cases a;exact zJ<|zN<|zF<|p1z ⟨Z,H.U []⟩;refine SR<|zH (jX Z)<|Ld rD H 2 2 Z Z<|ln a (H.im 0 Z) uM λ_ a=>dY a λv a=>zB (vb v)<|RM<|WJ a (λa=>SR<|zB (i6 3)<|RM ?_) λa=>?_;cases a;exact zJ<|zN<|zF<|p1z ⟨Z,H.U []⟩;refine yI<|zO<|zG<|KN<|jk a H (rg [2,1,4,1,18,33]) (λx (y:Unit)=>[]) (λx y=>[]) [0,1,2] (λ_ a=>?_) ?_;refine SR<|zH (jX Z)<|Ld rD H 2 2 Z Z<|ln a (H.im 0 Z) uM λa9 a=>zA (i6 0)<|RM<|zI<|lo a H (rg [2,1,4,1,21,30]) (λx (y:Unit)=>[(21,i6 x)]) (λx y=>[]) [0,1,2] () (H.U [0,1,2]) ?_;clear H a;rintro _ j _ ρ _ H a;have H:=un3 H;refine SR<|fG a λ_ a=>RM<|SQ<|WJ a (λa=>WZ<|SQ<|zI<|SR<|bE a λc n a=>?_) λa=>?_;obtain⟨k,l,_,_,z,A,B,C,D⟩:=yQ (H.im 0 Z) n;obtain rfl:=kQ A;have H:=H.fz (.at k (l+j.toNat*4) _) ⟨B,C,D⟩;refine ix uM kD z n<|zH (yE (zW (cs:=[i6 c.Frame,i6 c.Word,i6 c.Low,i6 c.Bits]) vT Z kD Z (H.im 3 Z).2.2) Z)<|xb (zY uS H) λo bf H=>xu (zT (vs:=[i6 c.Frame,i6 c.Word,i6 c.Low,i6 c.Bits]) H 4 Z kD Z Z Z ⟨Z,Z,Z,Z,T1⟩ Z) λ_ H=>RM<|bE a λE a F=>jo H (rg [25,25]) (λ(g:Unit)=>[(49,vb E)]) (λg=>[]) [0,1,2] ?_ ?_
 refine zD<|zH (aDq Z)<|Ld gX H 4 0 Z Z<|bE a λ_ G a=>RC aSq (aTj G (H.W [] [])) H λ_ H=>eQ a λ_ a=>bE a λI a J=>yY 6 [29,30,31,32,33,34] [(34,vb I)] (λwl=>Hd O w wl S [aV d b.Parts,dD e b.Names,.blk h [sb b.Name,i6 b.Kind,d,i6 b.First,i6 b.Every,i6 b.Times,i6 b.Step,e] 105,.fz (.at k (l+j.toNat*4) [i6 c.Frame,i6 c.Word,i6 c.Low,i6 c.Bits]),.blk o [i6 c.Frame,i6 c.Word,i6 c.Low,i6 c.Bits] 174]) ?_ ?_;refine RJ a (λa=>zM<|zM<|zM<|zM<|pt (vb true) ?_) λa=>?_;cases a;exact jn<|meet ⟨(yB Z yG),H.U (rg [0,5])⟩;refine zH (aDc Z)<|Ld gX H 4 1 Z Z<|bE a λ_ K a=>RC aSq (aTj K (H.W [] [])) H λ_ H=>eQ a λL a=>pf (vb L) ?_;cases a;exact jn<|meet ⟨(yB Z yG),H.U (rg [0,5])⟩;rintro ρ _ H;have a:=J;refine bE a λM a N=>yY 6 [35,36,37,38,39,40] [(40,vb M)] (λwl=>Hd O w wl S [aV d b.Parts,dD e b.Names,.blk h [sb b.Name,i6 b.Kind,d,i6 b.First,i6 b.Every,i6 b.Times,i6 b.Step,e] 105,.fz (.at k (l+j.toNat*4) [i6 c.Frame,i6 c.Word,i6 c.Low,i6 c.Bits]),.blk o [i6 c.Frame,i6 c.Word,i6 c.Low,i6 c.Bits] 174]) ?_ ?_;refine RJ a (λa=>zM<|zM<|zM<|zM<|pt (vb true) ?_) λa=>?_;cases a;exact jn<|meet ⟨(yB Z yG),H.U (rg [0,5])⟩;refine zH (aDj Z)<|Ld gX H 4 2 Z Z<|bE a λ_ P a=>RC aSq (aTj P (H.W [] [])) H λ_ H=>eQ a λQ a=>pf (vb Q) ?_;cases a;exact jn<|meet ⟨(yB Z yG),H.U (rg [0,5])⟩;rintro ρ _ H;have a:=N;refine RJ a (λa=>zM<|zM<|zM<|zM<|zM<|zM<|zM<|pt (vb true) ?_) λa=>?_
 cases a;exact jn<|mt () (H.U [0,1,2]);refine zH (aDp Z)<|Ld gX H 4 3 Z Z<|zH (aDj Z)<|Ld gX H 4 2 Z Z<|uN a λ_ a=>bE a λ_ R a=>RC aSq (aTj R (H.W [] [])) H λ_ H=>eQ a λT a=>pf (vb T) ?_;cases a;exact jn<|mt () (H.U [0,1,2]);rintro _ ρ _ H;have H:=un3 H;have a:=F;refine WJ a (λa=>SR<|zB (i6 9)<|RM ?_) λa=>?_;cases a;exact zJ<|zN<|zF<|zF<|zN<|zF<|p1z ⟨Z,H.U []⟩;exact yI<|zO<|zG<|KN<|zD<|fE a λU a=>zA (i6 U)<|jn<|me a () (H.U [0,1,2]);exact zX<|zL<|zL<|zS<|zG<|me a () (H.U [0,1,2]);rintro _ _ ρ _ H a;have H:=un3 H;refine SQ<|SR<|lb H 2 Z fZ fM<|bE a λ_ V a=>RC en191 (Fanw V (H.W [] [0,1])) H λ_ H=>dY a λ_ a=>RM<|WJ a (λa=>SR<|zB (i6 3)<|RM ?_) λa=>?_;cases a;exact zJ<|zF<|p1z ⟨Z,H.U []⟩;refine WZ<|SR<|lE a λ_ X a=>?_;subst X;refine xv (kl kInt [1,2,4,8,16] vH el3 H) λm _ H=>zH (aDk Z)<|Ld gX H 2 4 Z Z ?_;have Y:=H;have H:=H.freeze (i:=3) Z;refine bE a λs aa a=>RC (fC Tryz.func192) (Fb8w aa (H.W [] [3])) Y λ_ H=>zB (vb s)<|RM<|SQ<|bE a λab a ac=>jo H (rg [58,31]) (λ(g:Unit)=>[(88,vb ab)]) (λg=>[]) [0,1,2] ?_ ?_;refine zD<|zA (vb s)<|eQ a λ_ a=>bE a λad a ae=>yY 9 [60,61,62,63,64,65,66,67,68] [(68,vb ad)] (λwl=>Hd O w wl S [aV d b.Parts,dD e b.Names,.blk h [sb b.Name,i6 b.Kind,d,i6 b.First,i6 b.Every,i6 b.Times,i6 b.Step,e] 105,.own (Rp.int .i64) m 3 ([1,2,4,8,16]:List Int)]) ?_ ?_;refine RJ a ?_ ?_<;>intro a
 refine zM<|zM<|zM<|zM<|zM<|zM<|zM<|pt (vb true) ?_;cases a;exact jn<|meet ⟨(yB Z yG),H.U [0,1,2,3]⟩;refine zH (aJi Z)<|Ld gX H 2 3 Z Z<|zH (aDk Z)<|Ld gX H 2 4 Z Z<|uN a λ_ a=>bE a λ_ af a=>RC aSq (aTj af (H.W [] [])) H λ_ H=>eQ a λag a=>pf (vb ag) ?_;cases a;exact jn<|meet ⟨(yB Z yG),H.U [0,1,2,3]⟩;rintro ρ _ H;have a:=ae;refine bE a λah a ai=>yY 6 [69,70,71,72,73,74] [(74,vb ah)] (λwl=>Hd O w wl S [aV d b.Parts,dD e b.Names,.blk h [sb b.Name,i6 b.Kind,d,i6 b.First,i6 b.Every,i6 b.Times,i6 b.Step,e] 105,.own (Rp.int .i64) m 3 ([1,2,4,8,16]:List Int)]) ?_ ?_;refine RJ a (λa=>zM<|zM<|zM<|zM<|pt (vb true) ?_) λa=>?_;cases a;exact jn<|meet ⟨(yB Z yG),H.U [0,1,2,3]⟩;refine zH (nC Z)<|Ld gX H 2 5 Z Z<|bE a λ_ aj a=>RC aSq (aTj aj (H.W [] [])) H λ_ H=>eQ a λak a=>pf (vb ak) ?_;cases a;exact jn<|meet ⟨(yB Z yG),H.U [0,1,2,3]⟩;rintro ρ _ H;have a:=ai;refine bE a λal a am=>yY 5 [75,76,77,78,79] [(79,vb al)] (λwl=>Hd O w wl S [aV d b.Parts,dD e b.Names,.blk h [sb b.Name,i6 b.Kind,d,i6 b.First,i6 b.Every,i6 b.Times,i6 b.Step,e] 105,.own (Rp.int .i64) m 3 ([1,2,4,8,16]:List Int)]) ?_ ?_;refine RJ a (λa=>zM<|zM<|zM<|pt (vb true) ?_) λa=>?_;cases a;exact jn<|meet ⟨(yB Z yG),H.U [0,1,2,3]⟩;refine zH (sK Z)<|Ld gX H 2 6 Z Z<|fG a λan a=>pf (vb an) ?_;cases a;exact jn<|meet ⟨(yB Z yG),H.U [0,1,2,3]⟩;rintro ρ _ H;have a:=am;refine RJ a ?_ ?_<;>intro a
 refine zM<|zM<|zM<|zM<|zM<|zM<|zM<|pt (vb true) ?_;cases a;exact jn<|mt () (H.U [0,1,2]);refine zH (sK Z)<|Ld gX H 2 6 Z Z<|eG a λao a=>zH (nC Z)<|Ld gX H 2 5 Z Z<|eG a λap a=>RLb a (aQs (p:=ao) (q:=ap) u4 Z Z) λaq a=>pf (vb aq) ?_;cases a;exact jn<|mt () (H.U [0,1,2]);rintro _ ρ _ H;have H:=un3 H;have a:=ac;refine WJ a (λa=>SR<|zB (i6 9)<|RM ?_) λa=>?_;cases a;exact zJ<|zF<|p1z ⟨Z,H.U []⟩;refine WZ<|jk a H (rg [2,1,7,1,89,23]) (λx (y:Unit)=>[]) (λx y=>[]) [] (λ_ a=>?_) ?_;refine SR<|zH (jX Z)<|Ld rD H 2 2 Z Z<|ln a (H.im 0 Z) uM λ_ a=>zA (i6 0)<|RM<|zI<|lo a H (rg [2,1,7,1,92,20]) (λx (y:Unit)=>[(92,i6 x)]) (λx y=>[]) [0,1,2] () (H.U [0,1,2]) ?_;clear H a;rintro _ ar _ ρ _ H a;have H:=un3 H;refine SR<|fG a λ_ a=>RM<|SQ<|WJ a (λa=>WZ<|SQ<|zI<|SR<|bE a λf t a=>?_) λa=>?_;obtain⟨au,av,_,_,aw,ax,ay,az,a0⟩:=yQ (H.im 0 Z) t;obtain rfl:=kQ ax;have H:=H.fz (.at au (av+ar.toNat*4) _) ⟨ay,az,a0⟩;refine ix uM kD aw t<|zH (yE (zW (cs:=[i6 f.Frame,i6 f.Word,i6 f.Low,i6 f.Bits]) vT Z kD Z (H.im 3 Z).2.2) Z)<|xb (zY uS H) λ_ _ H=>xu (zT (vs:=[i6 f.Frame,i6 f.Word,i6 f.Low,i6 f.Bits]) H 4 Z kD Z Z Z ⟨Z,Z,Z,Z,T1⟩ Z) λ_ H=>RM<|bE a λa1 a a2=>jo H (rg [96,15]) (λ(g:Unit)=>[(110,vb a1)]) (λg=>[]) [0,1,2] ?_ ?_;refine zD<|zH (sK Z)<|Ld gX H 2 6 Z Z<|dY a λ_ a=>RJ a ?_ ?_<;>intro a
 refine zM<|zM<|zM<|zM<|zM<|zM<|zM<|zM<|zM<|zM<|pt (vb true) ?_;cases a;exact jn<|mt () (H.U [0,1,2]);refine zH (aDc Z)<|Ld gX H 4 1 Z Z<|zH (nC Z)<|Ld gX H 2 5 Z Z<|uN a λ_ a=>zH (sK Z)<|Ld gX H 2 6 Z Z<|vU a λ_ a=>fE a λ_ a=>dY a λa3 a=>pf (vb a3) ?_;cases a;exact jn<|mt () (H.U [0,1,2]);rintro _ ρ _ H;have H:=un3 H;have a:=a2;refine WJ a (λa=>SR<|zB (i6 9)<|RM ?_) λa=>?_;cases a;exact zJ<|zN<|zF<|zF<|zN<|zF<|p1z ⟨Z,H.U []⟩;exact yI<|zO<|zG<|KN<|zD<|fE a λa4 a=>zA (i6 a4)<|jn<|me a () (H.U [0,1,2]);exact zX<|zL<|zL<|zS<|zG<|me a () (H.U []);rintro _ _ ρ _ H a;refine SR<|zB (i6 0)<|RM ?_;cases a;exact zJ<|p1z ⟨Z,H.U []⟩
theorem Fdfw {e:List Str}{c:Str}{d:Value}{r:Int}(a:Fdf e c=some r)(H:Hd O w w S [dD d e]):
  Rt 174 [d,sb c] (i6 r) w O S []:=by
 refine CW 19 Tryz.func174 ?_;refine SR<|zB (i6 0)<|RM<|jk a H (rg [4,15]) (λx (y:Unit)=>[]) (λx y=>[]) [] (λi a=>?_) ?_;refine SR<|zA d<|ln a (H.im 0 Z) u90 λj a=>zA (i6 0)<|RM<|zI<|lo a H (rg [4,2,8,11]) (λx (y:Unit)=>[(8,i6 x)]) (λx y=>[]) [0] () (H.U [0]) ?_;clear H a;rintro k b _ ρ l H a;have H:=un1 H;refine SR<|fG a λm a=>RM<|SQ<|WJ a (λa=>WZ<|SQ<|zI<|SR<|zA (i6 b)<|zB (i6 b)<|RM<|SR<|zA (sb c)<|zA d<|zA (i6 b)<|bE a λf g a=>rea H (H.im 0 Z) (sb f) g u90 sz9 bU λn o H=>RLb a (wB (s1:=c) (s2:=f) Z Z) λp a=>RM<|WJ a (λa=>SR<|zA (i6 b)<|zB (i6 b)<|RM ?_) λa=>?_) λa=>?_;cases a;exact zJ<|zN<|zF<|zF<|zN<|zF<|p1z ⟨Z,H.U []⟩;exact yI<|zO<|zG<|KN<|zD<|fE a λh a=>zA (i6 h)<|jn<|me a () (H.U [0]);exact zX<|zL<|zL<|zS<|zG<|me a () (H.U []);rintro _ _ ρ q H a;refine SR<|zB (i6 (-1))<|RM ?_;cases a;exact zJ<|p1z ⟨Z,H.U []⟩
theorem Fd1w {d:List Str}{b:Str}{c:Value}{r:Bool}(a:Fd1 d b=some r)(H:Hd O w w S [dD c d]):
  Rt 133 [c,sb b] (vb r) w O S []:=by
 refine CW 9 Tryz.func133 ?_;refine SR<|zB (vb false)<|RM<|SR<|zA c<|zA (sb b)<|bE a λg e a=>RC en174 (Fdfw e (H.W [] [0])) H λh H=>jK a λf a=>zB (vb f)<|RM ?_;cases a;exact zJ<|p1z ⟨Z,H.U []⟩
theorem Fckw {d:Param}{e f:Value}{r:Int}(c:Fck d=some r)(H:Hd O w w S [aV e d.Parts,dD f d.Names]):
  Rt 143 [.agg [sb d.Name,i6 d.Kind,e,i6 d.First,i6 d.Every,i6 d.Times,i6 d.Step,f].toArray] (i6 r) w O S []:=by
 refine CW 82 Tryz.func143 ?_;refine SR<|xb (yD (cs:=[sb d.Name,i6 d.Kind,e,i6 d.First,i6 d.Every,i6 d.Times,i6 d.Step,f]) Z H) λi _ H=>zB (i6 0)<|RM<|SR<|lb H 2 Z fZ fM<|bE c λg s c=>RC en191 (Fanw s (H.W [] [0,1])) H λ_ H=>zB (i6 g)<|RM<|SQ<|bE c λt c u=>sJ H (rg [8,31]) [(38,vb t)] ?_ ?_;refine zD<|zH (jU Z)<|Ld gX H 2 1 Z Z<|eG c λ_ c=>bE c λz c A=>yY 5 [11,12,13,14,15] [(15,vb z)] (λwl=>Hd O w wl S [aV e d.Parts,dD f d.Names,.blk i [sb d.Name,i6 d.Kind,e,i6 d.First,i6 d.Every,i6 d.Times,i6 d.Step,f] 105]) ?_ ?_;refine RJ c (λc=>zA (i6 g)<|bE c λ_ B c=>zH (kW (j:=g) (q:=4) Z Z B)<|dK c λC c=>pt (vb C) ?_) λc=>?_;cases c;exact jn<|meet ⟨(yB Z yG),H.U [0,1,2]⟩;refine zM<|zM<|zM<|pf (vb false) ?_;cases c;exact jn<|meet ⟨(yB Z yG),H.U [0,1,2]⟩;rintro ρ _ H;have c:=A;refine bE c λD c E=>yY 9 [16,17,18,19,20,21,22,23,24] [(24,vb D)] (λwl=>Hd O w wl S [aV e d.Parts,dD f d.Names,.blk i [sb d.Name,i6 d.Kind,e,i6 d.First,i6 d.Every,i6 d.Times,i6 d.Step,f] 105]) ?_ ?_;refine RJ c (λc=>zM<|zM<|zM<|zM<|zM<|zM<|zM<|pt (vb true) ?_) λc=>?_;cases c;exact jn<|meet ⟨(yB Z yG),H.U [0,1,2]⟩;refine zH (jU Z)<|Ld gX H 2 1 Z Z<|eG c λ_ c=>RJ c (λc=>zA (i6 g)<|dK c λm c=>pt (vb m)<|pf (vb m) ?_) λc=>?_;cases c;exact jn<|meet ⟨(yB Z yG),H.U [0,1,2]⟩;refine zM<|zM<|pf (vb false)<|pf (vb false) ?_;cases c;exact jn<|meet ⟨(yB Z yG),H.U [0,1,2]⟩
 rintro ρ _ H;have c:=E;refine RJ c (λc=>zM<|zM<|zM<|zM<|zM<|zM<|zM<|zM<|zM<|zM<|zM<|zM<|pt (vb true) ?_) λc=>?_;cases c;exact jn<|mt () (H.U [0,1,2]);refine zH (jU Z)<|Ld gX H 2 1 Z Z<|eG c λ_ c=>bE c λF c G=>yY 5 [29,30,31,32,33] [(33,vb F)] (λwl=>Hd O w wl S [aV e d.Parts,dD f d.Names,.blk i [sb d.Name,i6 d.Kind,e,i6 d.First,i6 d.Every,i6 d.Times,i6 d.Step,f] 105]) ?_ ?_;refine RJ c (λc=>zM<|zM<|zM<|pt (vb true) ?_) λc=>?_;cases c;exact jn<|meet ⟨(yB Z yG),H.U [0,1,2]⟩;refine zH (jU Z)<|Ld gX H 2 1 Z Z<|eG c λI c=>pf (vb I) ?_;cases c;exact jn<|meet ⟨(yB Z yG),H.U [0,1,2]⟩;rintro ρ _ H;have c:=G;refine RJ c (λc=>zA (i6 g)<|eG c λn c=>pt (vb n)<|pf (vb n) ?_) λc=>?_;cases c;exact jn<|mt () (H.U [0,1,2]);refine zM<|zM<|pf (vb false)<|pf (vb false) ?_;cases c;exact jn<|mt () (H.U [0,1,2]);rintro _ ρ _ H;have c:=u;refine WJ c (λc=>SR<|zB (i6 2)<|RM ?_) λc=>?_;cases c;exact zJ<|zF<|p1z ⟨Z,H.U []⟩;refine WZ<|SQ<|SR<|zH (jU Z)<|Ld gX H 2 1 Z Z<|dK c λ_ c=>RM<|WJ c (λc=>SQ<|SR<|zH (jY Z)<|Ld rH H 2 7 Z Z<|ln c (H.im 1 Z) u90 λ_ c=>dY c λ_ c=>RM<|WJ c (λc=>SR<|zB (i6 2)<|RM ?_) λc=>?_) λc=>?_;cases c;exact zJ<|zF<|zF<|p1z ⟨Z,H.U []⟩;refine WZ<|SR<|zB (i6 0)<|RM ?_;cases c;exact zJ<|zF<|p1z ⟨Z,H.U []⟩;refine WZ<|SQ<|zI<|SR<|zH (jY Z)<|Ld rH H 2 7 Z Z<|ln c (H.im 1 Z) u90 λ_ c=>eG c λJ c=>zB (vb J)<|RM<|WJ c ?_ ?_<;>intro c
 refine SR<|zB (i6 13)<|RM ?_;cases c;exact zJ<|zN<|zF<|p1z ⟨Z,H.U []⟩;refine bE c λK c L=>sJ H (rg [51,13]) [(51,vb K)] ?_ ?_;have o:=H;have H:=H.rb;have az:=H;refine xH H (rg [0,13]) (kz [0,1,0,0,0,0,1,0,0,0,0,0,0]) mixed ?_;refine XQ (jY Z)<|XR rH H 2 7 Z Z<|lE c λM N c=>?_;obtain⟨a0,_,P⟩:=SlF.len ((H.im 1 Z));refine XQ (yE (dO u90 P) (congrArg (Value.int .i64) N))<|lE c λQ R c=>XQ (wC (aAd (a:=M) (b:=64) Z Z) R)<|MxM.XL_splitb (b:=Q) Z Z Z Z (λk=>?_) (λk=>?_);have c:=kM k c;refine XO<|MxM.xC oS Z Z Z ?_;refine XO<|XO<|XO<|XO<|XQ (wE (v:=vb true) Z Z)<|XQ (yM (v:=vb true) Z)<|nJ o H λa2 H=>?_;cases c;exact zG<|mt () (H.U [0,1,2]);have c:=kL k c;refine XQ (jY Z)<|XR rH H 2 7 Z Z<|lE c λT U c=>?_;obtain⟨a3,a4,V⟩:=SlF.len ((H.im 1 Z));refine XQ (yE (dO u90 V) (congrArg (Value.int .i64) U))<|XM (i6 g)<|bE c λX Y c=>XQ (kU (j:=1) (q:=g) Z Z Y)<|lE c λp aa c=>XQ (wC (aAd (a:=T) (b:=X) Z Z) aa)<|XQ (xQ (v:=vb p) Z Z)<|XQ (yM (v:=vb p) Z)<|nJ o H λa5 H=>?_;cases c;exact zG<|mt () (H.U [0,1,2]);rintro _ ρ _ H;have c:=L;refine WJ c (λc=>SR<|zB (i6 3)<|RM ?_) λc=>?_;cases c;exact zJ<|zN<|zF<|p1z ⟨Z,H.U []⟩;refine yI<|zO<|zG<|KN<|jk c H (rg [2,1,4,2,64,18]) (λx (y:Unit)=>[]) (λx y=>[]) [] (λ_ c=>?_) ?_;refine SR<|zH (jY Z)<|Ld rH H 2 7 Z Z<|ln c (H.im 1 Z) u90 λ_ c=>zA (i6 0)<|RM<|zI<|lo c H (rg [2,1,4,2,67,15]) (λx (y:Unit)=>[(67,i6 x)]) (λx y=>[]) [0,1,2] () (H.U [0,1,2]) ?_
 clear H c;rintro a9 l _ ρ _ H c;have H:=un3 H;refine SR<|fG c λ_ c=>RM<|SQ<|WJ c (λc=>WZ<|SQ<|zI<|SR<|zA (i6 l)<|bE c λh ab c=>rea H (H.im 1 Z) (sb h) ab u90 sz9 bU λ_ _ H=>zB (i6 l)<|zB (sb h)<|RM<|SQ<|SR<|zA (sb h)<|bE c λ_ ac c=>RC en141 (Fb4w ac (H.W [] [])) H λbf H=>eQ c λ_ c=>RM<|WJ c (λc=>SR<|zB (i6 8)<|RM ?_) λc=>?_) λc=>?_;cases c;exact zJ<|zF<|zN<|zF<|zF<|zN<|zF<|p1z ⟨Z,H.U []⟩;refine WZ<|SR<|zH (jY Z)<|Ld rH H 2 7 Z Z<|zA (i6 l)<|bE c λad ae c=>uD Z Z (mO u90 sz9 (H.im 1 Z) Z Z ae) ?_;rintro af ag;have H:=H.fz (.sl Rp.str af ad) ag;refine zA (sb h)<|bE c λ_ ah c=>RC (fC Tryz.func133) (Fd1w ah (H.W [] [4])) H λ_ H=>RM<|WJ c (λc=>SR<|zB (i6 5)<|RM ?_) λc=>?_;cases c;exact zJ<|zN<|zF<|zF<|zN<|zF<|p1z ⟨Z,H.U []⟩;exact yI<|zO<|zG<|KN<|zD<|fE c λai c=>zA (i6 ai)<|jn<|me c () (H.U [0,1,2]);exact zX<|zL<|zL<|zS<|zG<|me c () (H.U []);rintro _ _ ρ _ H c;refine SR<|zB (i6 0)<|RM ?_;cases c;exact zJ<|p1z ⟨Z,H.U []⟩
theorem Fehw {b:Param}{f g:Value}{r:Int}(a:Feh b=some r)(H:Hd O w w S [aV f b.Parts,dD g b.Names]):
  Rt 90 [.agg [sb b.Name,i6 b.Kind,f,i6 b.First,i6 b.Every,i6 b.Times,i6 b.Step,g].toArray] (i6 r) w O S []:=by
 refine CW 45 Tryz.func90 ?_;refine SR<|xb (yD (cs:=[sb b.Name,i6 b.Kind,f,i6 b.First,i6 b.Every,i6 b.Times,i6 b.Step,g]) Z H) λ_ _ H=>zB (i6 0)<|RM<|SQ<|SR<|zH (uP Z)<|Ld bU H 2 0 Z Z<|bE a λ_ l a=>RC en141 (Fb4w l (H.W [] [])) H λ_ H=>eQ a λ_ a=>RM<|WJ a (λa=>SR<|zB (i6 8)<|RM ?_) λa=>?_;cases a;exact zJ<|zF<|p1z ⟨Z,H.U []⟩;refine WZ<|SQ<|SR<|zH (jU Z)<|Ld gX H 2 1 Z Z<|bE a λ_ m a=>RC aSq (aTj m (H.W [] [])) H λ_ H=>eQ a λN a=>RM<|WJ a (λa=>SR<|zB (i6 7)<|RM ?_) λa=>?_;cases a;exact zJ<|zF<|p1z ⟨Z,H.U []⟩;refine WZ<|SQ<|SR<|lb H 2 Z fZ fM<|bE a λd n a=>RC (fC Tryz.func142) (Fcww n (H.W [] [0,1])) H λP H=>zB (i6 d)<|RM<|SR<|zA (i6 d)<|dK a λQ a=>RM<|WJ a (λa=>SR<|zA (i6 d)<|zB (i6 d)<|RM ?_) λa=>?_;cases a;exact zJ<|zF<|p1z ⟨Z,H.U []⟩;refine WZ<|SQ<|SR<|lb H 2 Z fZ fM<|bE a λe o a=>RC (fC Tryz.func143) (Fckw o (H.W [] [0,1])) H λ_ H=>zB (i6 e)<|RM<|SR<|zA (i6 e)<|dK a λT a=>RM<|WJ a (λa=>SR<|zA (i6 e)<|zB (i6 e)<|RM ?_) λa=>?_;cases a;exact zJ<|zF<|p1z ⟨Z,H.U []⟩;refine WZ<|SR<|nO Z Z (nU H) ?_;rintro _ U ⟨h,rfl,H⟩;refine zB (.map (some h))<|RM<|SR<|lb H 2 Z fZ fM<|bE a λV p a=>cAa en94 (Fa2w p (H.W [] [0,1])) λi X q=>?_;have H:=H.back1 [0,1] Z q;refine zB i<|RM<|jk a H (rg [2,1,8,1,30,12]) (λx (y:Unit)=>[]) (λx y=>[]) [4] (λY a=>?_) ?_
 refine SR<|zA i ?_;obtain⟨_,_,s⟩:=Sr.len (Sr.xI (H.im 4 Z));refine RLi a (dO nT s) λ_ a=>zA (i6 0)<|RM<|zI<|lo a H (rg [2,1,8,1,32,10]) (λx (y:Unit)=>[(32,i6 x.1)]) (λx y=>[.mp h (eH dF (λv=>Value.int .i64 v) x.2)]) [0,5] () (H.U [3,4]) ?_;clear H a;rintro _ ⟨_,af⟩ _ ρ _ H a;have H:=un2 H;refine SR<|fG a λ_ a=>RM<|SQ<|WJ a (λa=>WZ<|SQ<|zI<|SR<|bE a λc k a=>?_) λa=>?_;obtain⟨_,_,_,t,u,z⟩:=pR (H.im 1 Z) k;obtain⟨j,rfl,A⟩:=jO u;have H:=H.fzs [.sl dA j c.Places] ⟨A,T1⟩;refine ix nT jB t k<|zH (yE (zW (cs:=[i6 c.Param,i6 c.Index,i6 c.Frame,j]) vG Z jB Z z) Z)<|xb (zY aBu H) λ_ _ H=>xu (zT (vs:=[i6 c.Param,i6 c.Index,i6 c.Frame,j]) H 3 Z jB Z Z Z ⟨Z,Z,Z,(yU (H.im 2 Z)),T1⟩ Z) λ_ H=>RM<|SR<|zA (.map (some h))<|zH (nI Z)<|Ld vK H 3 3 Z Z ?_;obtain⟨⟨_,_⟩,B,a⟩:=yC a;refine cAz en95 (Fbmw B (H.W [0] [2])) λ_ C=>?_;have H:=un4<|H.back [0] [2] Z C;refine eQ a λ_ a=>RM<|WJ a (λa=>SR<|zB (i6 5)<|RM ?_) λa=>?_;cases a;exact zJ<|zN<|zF<|zF<|zN<|zF<|p1z ⟨Z,H.U []⟩;exact yI<|zO<|zG<|KN<|zD<|fE a λD a=>zA (i6 D)<|jn<|me a () (H.U [3,0]);exact zX<|zL<|zL<|zS<|zG<|me a () (H.U [1]);rintro _ _ ρ _ H a;have H:=un1 H;refine SQ<|SR<|zA i ?_;obtain⟨_,_,E⟩:=Sr.len (Sr.xI (H.im 0 Z));refine RLi a (dO nT E) λ_ a=>eG a λ_ a=>RM<|WJ a (λa=>SR<|zB (i6 13)<|RM ?_) λa=>?_;cases a;exact zJ<|zF<|p1z ⟨Z,H.U []⟩
 refine WZ<|SR<|zB (i6 0)<|RM ?_;cases a;exact zJ<|p1z ⟨Z,H.U []⟩
end Go.Proofs.YtolnigkhnidkoacGreatDoor.L
