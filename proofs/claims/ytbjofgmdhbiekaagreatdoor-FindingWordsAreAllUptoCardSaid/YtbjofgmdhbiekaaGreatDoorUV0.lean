/- Walks that the claim stands on; no condition beyond those stated. -/
import Derived.Test.YtbjofgmdhbiekaaGreatDoorUP
import Derived.Test.YtbjofgmdhbiekaaGreatDoorXVq
import Derived.Test.YtbjofgmdhbiekaaGreatDoorShK
namespace Go.Proofs.YtbjofgmdhbiekaaGreatDoor.L
open Go.RowKit Go.OB Go.Lf
set_option maxRecDepth 100000
set_option maxHeartbeats 4000000
abbrev vb:=Value.bool
theorem T1:True:=trivial
theorem Z {α:Sort _}{a:α}:a=a:=rfl
variable {O S:List Nat}{w:World}
abbrev En (f:FuncId):Prop:=Go.OB.Enters Tryz.prog f
theorem RN {P:Program}{N:Nat}{ops:Array Oper}{y:Code}{K:Env->World->Prop}{Q Q':Exit->Env->World->Prop}{ρ:Env}{w:World}(h: ∀ρ w,WP P N y Q ρ w->K ρ w)(n:WP P N y Q ρ w):RL P N ops (mZ K Q') [] ρ w:=yU (zJ (h _ _ n))
theorem CW {P:Program}{f:FuncId}{fn:Func}{c:Code}{args:List Value}{w:World}{R:Ending->World->Prop}(N:Nat)(hf:P.funcs[f]? =some fn)(h:WP P N c (wH P fn.results R) (aMp args) w)(hb:fn.body=some c:=by exact rfl)(hN:fn.ntmps=N:=by exact rfl)(hl:Nat.ble args.length N=true:=by exact rfl):Calls P f args.toArray w R:=rJ N hf hb hN hl h
theorem mt {W:List Nat}{ρ ρ':Env}{G:Type}{S:G->List (Nat×Value)}{B:G->Prop}(g:G)(h:B g)(hs:Sl ρ' (S g):=by repeat (first |exact yG|refine yB rfl ?_))(hf:Fr W ρ ρ':=by repeat' (first |with_reducible exact aFb|refine aPo rfl ?_|refine aIf rfl rfl ?_)):Fr W ρ ρ'/\ ∃g,Sl ρ' (S g)/\B g:=⟨hf,g,hs,h⟩
theorem ml {W:List Nat}{ρ ρ':Env}{G:Type}{S:G->List (Nat×Value)}{B C:G->Prop}{μ:G->Nat}{n:Nat}(g:G)(h:B g)(c:C g)(hs:Sl ρ' (S g):=by repeat (first |exact yG|refine yB rfl ?_))(hn:μ g<n:=by exact Nat.lt_succ_self _)(hf:Fr W ρ ρ':=by repeat' (first |with_reducible exact aFb|refine aPo rfl ?_|refine aIf rfl rfl ?_)):Fr W ρ ρ'/\ ∃g,Sl ρ' (S g)/\(B g/\C g)/\μ g<n:=⟨hf,g,hs,⟨h,c⟩,hn⟩
def rg:List Nat->List Nat
 |a::n::l=>List.range' a n++rg l
 |_=>[]
section
variable {P:Program}{N:Nat}{ops:Array Oper}{Q Q':Exit->Env->World->Prop}{rest:List Oper}{ρ:Env}{w:World}{d:Nat}{op:Op}{ty:TypeId}{pos:String}{af:Array Edge}{gd:Option (Nat×Bool)}
theorem RLb {β:Type}{b:Bool}{k:Bool->Option β}{r:β}(a:gG b k=some r)(hd:Do P ⟨some d,op,ty,pos,af,gd⟩ ρ w (vb b) w)(n: ∀x,k x=some r->RL P N ops Q rest (upd ρ d (vb x)) w)(hw:fO N ops ρ ⟨some d,op,ty,pos,af,gd⟩=true:=by exact rfl)(c:Nat.blt d N=true:=by exact rfl):RL P N ops Q (⟨some d,op,ty,pos,af,gd⟩::rest) ρ w:=aG hw c hd (n b a)
theorem RLi {β:Type}{b:Int}{kk:IntKind}{k:Int->Option β}{r:β}(a:gG b k=some r)(hd:Do P ⟨some d,op,ty,pos,af,gd⟩ ρ w (.int kk b) w)(n: ∀x,k x=some r->RL P N ops Q rest (upd ρ d (.int kk x)) w)(hw:fO N ops ρ ⟨some d,op,ty,pos,af,gd⟩=true:=by exact rfl)(c:Nat.blt d N=true:=by exact rfl):RL P N ops Q (⟨some d,op,ty,pos,af,gd⟩::rest) ρ w:=aG hw c hd (n b a)
theorem WI {β:Type}{b:Bool}{x y:Option β}{r:β}{c:Operand}{s t:Code}(a:gJ b x y=some r)(hc:ev ρ c=vb b)(ht:x=some r->WP P N s Q ρ w)(hf:y=some r->WP P N t Q ρ w):WP P N (.cond c s t) Q ρ w:=aDi hc (λc=>ht (vN c a)) (λc=>hf (vV c a))
theorem RI {β:Type}{b:Bool}{x y:Option β}{r:β}{z:Operand}(a:gJ b x y=some r)(hx:ev ρ z=vb b)(ht:x=some r->RL P N ops Q rest (upd ρ d (vb true)) w)(hf:y=some r->RL P N ops Q rest (upd ρ d (vb false)) w)(hw:fO N ops ρ ⟨some d,.move z,ty,pos,af,gd⟩=true:=by exact rfl)(e:Nat.blt d N=true:=by exact rfl):RL P N ops Q (⟨some d,.move z,ty,pos,af,gd⟩::rest) ρ w:=RL_splitb hw e hx (λc=>ht (vN c a)) (λc=>hf (vV c a))
theorem RC {f:FuncId}{args:Array Operand}{at_:Array TypeId}{vs:List Value}{v:Value}{O c S:List Nat}{b:World}{l:List Th}(he:Go.OB.Enters P f)(hc:Calls P f vs.toArray w λe a=>e= .returned v/\Hd c w a [] [])(H:Hd O b w S l)(k: ∀a,Hd O b a S l->RL P N ops Q rest (upd ρ d v) a)(ha:args.toList.map (ev ρ)=vs:=by exact rfl)(hw:fO N ops ρ ⟨some d,.call {callee:= .value (.func f),args:=args,argTypes:=at_},ty,pos,af,gd⟩=true:=by exact rfl)(g:Nat.blt d N=true:=by exact rfl):RL P N ops Q (⟨some d,.call {callee:= .value (.func f),args:=args,argTypes:=at_},ty,pos,af,gd⟩::rest) ρ w:=by
 refine yY hw g (xE he ha) hc ?_;rintro _ a ⟨rfl,G⟩;exact⟨_,rfl,k _ (H.step G.only)⟩
end
section
variable {P:Program}{N:Nat}{ops:Array Oper}{Q Q':Exit->Env->World->Prop}{rest:List Oper}{ρ:Env}{w:World}{d:Nat}{t u ty:TypeId}{x y:Operand}{pos:String}{af:Array Edge}{g:Option (Nat×Bool)}
def KK (P:Program)(N:Nat)(y:Code)(Q:Exit->Env->World->Prop):Env->World->Prop:=WP P N y Q
theorem SQ {x y:Code}(h:WP P N x (mZ (KK P N y Q) Q) ρ w):WP P N (.seq x y) Q ρ w:=aVw h λ_ _ h=>h
theorem SR {id:Nat}{l:List Oper}{y:Code}(h:RL P N l.toArray (mZ (KK P N y Q) Q) l ρ w):WP P N (.seq (.region id l.toArray false) y) Q ρ w:=SQ (zF h)
theorem RM {y:Code}(n:WP P N y Q ρ w):RL P N ops (mZ (KK P N y Q) Q') [] ρ w:=yU (zJ n)
theorem WZ {y:Code}(n:WP P N y Q ρ w):WP P N .skip (mZ (KK P N y Q) Q') ρ w:=yI (zJ n)
theorem KN {y:Code}(n:WP P N y Q ρ w):KK P N y Q ρ w:=n
theorem jn {K:Env->World->Prop}(n:K ρ w):RL P N ops (mZ K Q') [] ρ w:=yU (zJ n)
theorem js {K:Env->World->Prop}(n:K ρ w):WP P N .skip (mZ K Q') ρ w:=yI (zJ n)
theorem eF {a b:Int}{kk:IntKind}{β:Type}{k:Bool->Option β}{r:β}(c:gG (decide (a<b)) k=some r)(n: ∀x,k x=some r->RL P N ops Q rest (upd ρ d (vb x)) w)(hx:ev ρ x= .int kk a:=by exact rfl)(hy:ev ρ y= .int kk b:=by exact rfl)(hw:fO N ops ρ ⟨some d,.binOp .lss t x y u,ty,pos,af,g⟩=true:=by exact rfl)(e:Nat.blt d N=true:=by exact rfl):RL P N ops Q (⟨some d,.binOp .lss t x y u,ty,pos,af,g⟩::rest) ρ w:=RLb c (aJp hx hy) n hw e
theorem vX {a b:Int}{kk:IntKind}{β:Type}{k:Bool->Option β}{r:β}(c:gG (decide (a<=b)) k=some r)(n: ∀x,k x=some r->RL P N ops Q rest (upd ρ d (vb x)) w)(hx:ev ρ x= .int kk a:=by exact rfl)(hy:ev ρ y= .int kk b:=by exact rfl)(hw:fO N ops ρ ⟨some d,.binOp .leq t x y u,ty,pos,af,g⟩=true:=by exact rfl)(e:Nat.blt d N=true:=by exact rfl):RL P N ops Q (⟨some d,.binOp .leq t x y u,ty,pos,af,g⟩::rest) ρ w:=RLb c (aDh hx hy) n hw e
theorem jF {a b:Int}{kk:IntKind}{β:Type}{k:Bool->Option β}{r:β}(c:gG (decide (b<a)) k=some r)(n: ∀x,k x=some r->RL P N ops Q rest (upd ρ d (vb x)) w)(hx:ev ρ x= .int kk a:=by exact rfl)(hy:ev ρ y= .int kk b:=by exact rfl)(hw:fO N ops ρ ⟨some d,.binOp .gtr t x y u,ty,pos,af,g⟩=true:=by exact rfl)(e:Nat.blt d N=true:=by exact rfl):RL P N ops Q (⟨some d,.binOp .gtr t x y u,ty,pos,af,g⟩::rest) ρ w:=RLb c (aDy hx hy) n hw e
theorem pV {a b:Int}{kk:IntKind}{β:Type}{k:Bool->Option β}{r:β}(c:gG (decide (b<=a)) k=some r)(n: ∀x,k x=some r->RL P N ops Q rest (upd ρ d (vb x)) w)(hx:ev ρ x= .int kk a:=by exact rfl)(hy:ev ρ y= .int kk b:=by exact rfl)(hw:fO N ops ρ ⟨some d,.binOp .geq t x y u,ty,pos,af,g⟩=true:=by exact rfl)(e:Nat.blt d N=true:=by exact rfl):RL P N ops Q (⟨some d,.binOp .geq t x y u,ty,pos,af,g⟩::rest) ρ w:=RLb c (Do_geq hx hy) n hw e
theorem dE {a b:Int}{kk:IntKind}{β:Type}{k:Bool->Option β}{r:β}(c:gG (decide (a=b)) k=some r)(n: ∀x,k x=some r->RL P N ops Q rest (upd ρ d (vb x)) w)(hx:ev ρ x= .int kk a:=by exact rfl)(hy:ev ρ y= .int kk b:=by exact rfl)(hw:fO N ops ρ ⟨some d,.binOp .eql t x y u,ty,pos,af,g⟩=true:=by exact rfl)(e:Nat.blt d N=true:=by exact rfl):RL P N ops Q (⟨some d,.binOp .eql t x y u,ty,pos,af,g⟩::rest) ρ w:=RLb c (aYf hx hy) n hw e
theorem dP {a b:Int}{kk:IntKind}{β:Type}{k:Bool->Option β}{r:β}(c:gG (decide (a≠b)) k=some r)(n: ∀x,k x=some r->RL P N ops Q rest (upd ρ d (vb x)) w)(hx:ev ρ x= .int kk a:=by exact rfl)(hy:ev ρ y= .int kk b:=by exact rfl)(hw:fO N ops ρ ⟨some d,.binOp .neq t x y u,ty,pos,af,g⟩=true:=by exact rfl)(e:Nat.blt d N=true:=by exact rfl):RL P N ops Q (⟨some d,.binOp .neq t x y u,ty,pos,af,g⟩::rest) ρ w:=RLb c (aWt hx hy) n hw e
theorem fQ {a b:Int}{kk:IntKind}{β:Type}{k:Int->Option β}{r:β}(c:gG (kk.wrap (a+b)) k=some r)(n: ∀x,k x=some r->RL P N ops Q rest (upd ρ d (.int kk x)) w)(hx:ev ρ x= .int kk a:=by exact rfl)(hy:ev ρ y= .int kk b:=by exact rfl)(hw:fO N ops ρ ⟨some d,.binOp .add t x y u,ty,pos,af,g⟩=true:=by exact rfl)(e:Nat.blt d N=true:=by exact rfl):RL P N ops Q (⟨some d,.binOp .add t x y u,ty,pos,af,g⟩::rest) ρ w:=RLi c (aBu hx hy rfl) n hw e
theorem aBr {a b:Int}{kk:IntKind}{β:Type}{k:Int->Option β}{r:β}(c:gG (kk.wrap (a-b)) k=some r)(n: ∀x,k x=some r->RL P N ops Q rest (upd ρ d (.int kk x)) w)(hx:ev ρ x= .int kk a:=by exact rfl)(hy:ev ρ y= .int kk b:=by exact rfl)(hw:fO N ops ρ ⟨some d,.binOp .sub t x y u,ty,pos,af,g⟩=true:=by exact rfl)(e:Nat.blt d N=true:=by exact rfl):RL P N ops Q (⟨some d,.binOp .sub t x y u,ty,pos,af,g⟩::rest) ρ w:=RLi c (jD hx hy rfl) n hw e
theorem aDw {a b:Int}{kk:IntKind}{β:Type}{k:Int->Option β}{r:β}(c:gG (kk.wrap (a*b)) k=some r)(n: ∀x,k x=some r->RL P N ops Q rest (upd ρ d (.int kk x)) w)(hx:ev ρ x= .int kk a:=by exact rfl)(hy:ev ρ y= .int kk b:=by exact rfl)(hw:fO N ops ρ ⟨some d,.binOp .mul t x y u,ty,pos,af,g⟩=true:=by exact rfl)(e:Nat.blt d N=true:=by exact rfl):RL P N ops Q (⟨some d,.binOp .mul t x y u,ty,pos,af,g⟩::rest) ρ w:=RLi c (aBp hx hy rfl) n hw e
theorem sJ {x y:Code}{O S:List Nat}{a b:World}{T:List Th}(_:Hd O a b S T)(W:List Nat)(l:List (Nat×Value))(h:WP P N x (mZ (λρ' c=>Fr W ρ ρ'/\ ∃g:Unit,Sl ρ' ((λ_=>l) g)/\(λ_ wl=>Hd O a wl S T) g c) Q) ρ w)(k: ∀(_:Unit) ρ₁ w,Hd O a w S T->WP P N y Q (over ρ ρ₁ W l) w):WP P N (.seq x y) Q ρ w:=aIe W (λ_:Unit=>l) (λ_ wl=>Hd O a wl S T) h k
theorem bE {α β:Type}{p:Prop}{x:Option α}{f:α->Option β}{r:β}(h:gB x f=some r)(k: ∀y,x=some y->f y=some r->p):p:=(zX h).elim λy q=>k y q.1 q.2
theorem lE {α β:Type}{p:Prop}{x:α}{f:α->Option β}{r:β}(h:gG x f=some r)(k: ∀y,x=y->f y=some r->p):p:=(aCl h).elim λy q=>k y q.1 q.2
theorem XQ {I:World->Prop}{κ:List MxM.Kd}{K:MxM.Mm->Env->World->Prop}{k:Nat}{M:MxM.Mm}{σ:List Nat}{v:Value}{op:Op}(h: ∀{a},Do P ⟨some d,op,ty,pos,af,g⟩ ρ a v a)(n:MxM.XL P I N ops κ K M σ rest (upd ρ d v) w)(hk:MxM.kdOf κ k= .pure:=by exact rfl)(hw:fO N ops ρ ⟨some d,op,ty,pos,af,g⟩=true:=by exact rfl)(b:Nat.blt d N=true:=by exact rfl):MxM.XL P I N ops κ K M (k::σ) (⟨some d,op,ty,pos,af,g⟩::rest) ρ w:=MxM.XL_pure hk hw b (λ_ _=>h) n
theorem eX {b:Bool}{β:Type}{k:Bool->Option β}{r:β}(a:gG (!b) k=some r)(n: ∀x,k x=some r->RL P N ops Q rest (upd ρ d (vb x)) w)(hx:ev ρ x=vb b:=by exact rfl)(hw:fO N ops ρ ⟨some d,.unOp .not t x,ty,pos,af,g⟩=true:=by exact rfl)(c:Nat.blt d N=true:=by exact rfl):RL P N ops Q (⟨some d,.unOp .not t x,ty,pos,af,g⟩::rest) ρ w:=RLb a (aBh hx) n hw c
theorem pt (v:Value){z:Operand}(n:RL P N ops Q rest (upd ρ d v) w)(hx:ev ρ x=vb true:=by exact rfl)(hy:ev ρ y=v:=by exact rfl)(hw:fO N ops ρ ⟨some d,.pick x y z,ty,pos,af,g⟩=true:=by exact rfl)(a:Nat.blt d N=true:=by exact rfl):RL P N ops Q (⟨some d,.pick x y z,ty,pos,af,g⟩::rest) ρ w:=aG hw a (mY hx hy) n
theorem pf (v:Value){z:Operand}(n:RL P N ops Q rest (upd ρ d v) w)(hx:ev ρ x=vb false:=by exact rfl)(hz:ev ρ z=v:=by exact rfl)(hw:fO N ops ρ ⟨some d,.pick x y z,ty,pos,af,g⟩=true:=by exact rfl)(a:Nat.blt d N=true:=by exact rfl):RL P N ops Q (⟨some d,.pick x y z,ty,pos,af,g⟩::rest) ρ w:=aG hw a (pR hx hz) n
theorem ix {α:Type}{L:List α}{i:Int}{z:α}{e:TypeId}{b o s c:Nat}{kk:IntKind}(hu:P.underlying t=some (.slice e))(hs:Sz P e s)(hx:ev ρ x= .slice (some ⟨b,o,none⟩) L.length c)(h:at' L i=some z)(n:RL P N ops Q rest (upd ρ d (.pointer (some ⟨b,o+i.toNat*s,none⟩))) w)(hy:ev ρ y= .int kk i:=by exact rfl)(hw:fO N ops ρ ⟨some d,.indexAddr t x y,ty,pos,af,g⟩=true:=by exact rfl)(a:Nat.blt d N=true:=by exact rfl):RL P N ops Q (⟨some d,.indexAddr t x y,ty,pos,af,g⟩::rest) ρ w:=aG hw a (kG hu hs hx hy (xA h).1 (xA h).2.1 rfl rfl) n
theorem lb {O S:List Nat}{a:World}{l:List Th}{b T n:Nat}{cs:List Value}(H:Hd O a w S l)(i:Nat)(h:l[i]? =some (.blk b cs T))(c:Agg P t)(hs:Sz P t n)(k:RL P N ops Q rest (upd ρ d (.agg cs.toArray)) w)(hx:ev ρ x= .pointer (some ⟨b,0,none⟩):=by exact rfl)(hl:cs.length=n:=by exact rfl)(hw:fO N ops ρ ⟨some d,.load t x,ty,pos,af,g⟩=true:=by exact rfl)(e:Nat.blt d N=true:=by exact rfl):RL P N ops Q (⟨some d,.load t x,ty,pos,af,g⟩::rest) ρ w:=aG hw e (zZ c hx hs hl (Blk.cells (H.V h))) k
theorem WJ {β:Type}{b:Bool}{x y:Option β}{r:β}{c:Operand}{s t:Code}(a:gJ b x y=some r)(ht:x=some r->WP P N s Q ρ w)(hf:y=some r->WP P N t Q ρ w)(hc:ev ρ c=vb b:=by exact rfl):WP P N (.cond c s t) Q ρ w:=WI a hc ht hf
theorem RJ {β:Type}{b:Bool}{x y:Option β}{r:β}{z:Operand}(a:gJ b x y=some r)(ht:x=some r->RL P N ops Q rest (upd ρ d (vb true)) w)(hf:y=some r->RL P N ops Q rest (upd ρ d (vb false)) w)(hx:ev ρ z=vb b:=by exact rfl)(hw:fO N ops ρ ⟨some d,.move z,ty,pos,af,g⟩=true:=by exact rfl)(c:Nat.blt d N=true:=by exact rfl):RL P N ops Q (⟨some d,.move z,ty,pos,af,g⟩::rest) ρ w:=RI a hx ht hf hw c
end
abbrev Sm {O S:List Nat}{v w:World}{l:List Th}(_:Hd O v w S l)(w':World)(l':List Th):Prop:=Hd O v w' S l'
section
variable {P:Program}{N:Nat}{Q:Exit->Env->World->Prop}{ρ:Env}{w wo:World}{O S:List Nat}{T:List Th}{X Y β:Type}{r:β}{c x y:Code}
abbrev pj (J:List Nat)(t T:List Th):=Go.Lf.pick J (t++T)
theorem jo (_:Hd O wo w S T)(W:List Nat)(l:Y->List (Nat×Value))(t:Y->List Th)(J:List Nat)(h:WP P N x (mZ (λρ' a=>Fr W ρ ρ'/\ ∃z:Y,Sl ρ' (l z)/\Hd O wo a S (pj J (t z) T)) Q) ρ w)(k: ∀z ρ₁ w,Hd O wo w S (pj J (t z) T)->WP P N y Q (over ρ ρ₁ W (l z)) w):WP P N (.seq x y) Q ρ w:=aIe W l (λz wl=>Hd O wo wl S (pj J (t z) T)) h k
theorem jk {b:X->Option β}{m:(X->Option β)->Option β}(a:fP b m=some r)(_:Hd O wo w S T)(W:List Nat)(l:X->Y->List (Nat×Value))(t:X->Y->List Th)(J:List Nat)(h: ∀k:X->Option β,m k=some r->WP P N x (mZ (λρ' c=>Fr W ρ ρ'/\ ∃u v,Sl ρ' (l u v)/\Hd O wo c S (pj J (t u v) T)/\k u=some r) Q) ρ w)(k: ∀u v ρ₁ w,Hd O wo w S (pj J (t u v) T)->b u=some r->WP P N y Q (over ρ ρ₁ W (l u v)) w):WP P N (.seq x y) Q ρ w:=by
 refine aIe (G:=X×Y) W (λg=>l g.1 g.2) (λg wl=>Hd O wo wl S (pj J (t g.1 g.2) T)/\b g.1=some r) ((h b a).mono ?_) (λg ρ₁ w hg=>k g.1 g.2 ρ₁ w hg.1 hg.2);intro e ρ' c hq
 cases e<;>first |(obtain⟨d,u,v,f,i,j⟩:=hq;exact⟨d,(u,v),f,i,j⟩)|exact hq
theorem lo {b:(X->Option β)->X->Option β}{d:X}(a:gZ b d=some r)(_:Hd O wo w S T)(W:List Nat)(l:X->Y->List (Nat×Value))(t:X->Y->List Th)(J:List Nat)(f:Y)(j:Hd O wo w S (pj J (t d f) T))(n: ∀k u v ρ₁ w,Hd O wo w S (pj J (t u v) T)->b k u=some r->WP P N c (mZ (λρ' i=>Fr W ρ ρ'/\ ∃u v,Sl ρ' (l u v)/\Hd O wo i S (pj J (t u v) T)/\k u=some r) Q) (over ρ ρ₁ W (l u v)) w)(hs:Sl ρ (l d f):=by repeat (first |exact yG|refine yB rfl ?_)):WP P N (.loop c) Q ρ w:=by
 obtain⟨B,m,rfl,o⟩:=aVt a;refine aJo (G:=Nat×X×Y) W (λg=>l g.2.1 g.2.2) (λg wl=>Hd O wo wl S (pj J (t g.2.1 g.2.2) T)/\kC B g.1 g.2.1=some r) (λg=>g.1) (m,d,f) hs ⟨j,o⟩ ?_;rintro⟨m,u,v⟩ ρ₁ w ⟨p,h⟩;obtain⟨m,rfl,h⟩:=loopN_pos h;refine(n (kC B m) u v ρ₁ w p h).mono ?_;intro e ρ' i hq
 cases e<;>first |(obtain⟨q,u',v',s,x,y⟩:=hq;exact⟨q,(m,u',v'),s,⟨x,y⟩,Nat.lt_succ_self _⟩)|exact hq
theorem me {W:List Nat}{ρ ρ':Env}{k:X->Option β}{l:X->Y->List (Nat×Value)}{B:X->Y->Prop}{u:X}(a:k u=some r)(y:Y)(h:B u y)(hs:Sl ρ' (l u y):=by repeat (first |exact yG|refine yB rfl ?_))(hf:Fr W ρ ρ':=by repeat' (first |with_reducible exact aFb|refine aPo rfl ?_|refine aIf rfl rfl ?_)):Fr W ρ ρ'/\ ∃u v,Sl ρ' (l u v)/\B u v/\k u=some r:=⟨hf,u,y,hs,h,a⟩
end
section
variable {P:Program}{N:Nat}{ops:Array Oper}{Q:Exit->Env->World->Prop}{rest:List Oper}{ρ:Env}{w wo:World}{d dd:Nat}{op:Op}{t e tt uu ty tyy:TypeId}{x y xx:Operand}{pos poo:String}{af aff:Array Edge}{g gg:Option (Nat×Bool)}{f:FuncId}{args:Array Operand}{at_:Array TypeId}{vs:List Value}{O S:List Nat}{l:List Th}{α β A B C D:Type}{r:β}{v:Value}
theorem xu {R:World->Prop}(h: ∃a,DoU P ⟨none,op,ty,pos,af,g⟩ ρ w a/\R a)(k: ∀a,R a->RL P N ops Q rest ρ a)(hw:fO N ops ρ ⟨none,op,ty,pos,af,g⟩=true:=by exact rfl):RL P N ops Q (⟨none,op,ty,pos,af,g⟩::rest) ρ w:=RL_exU hw h k
theorem xv {R:Value->World->Prop}(h: ∃v a,Do P ⟨some d,op,ty,pos,af,g⟩ ρ w v a/\R v a)(k: ∀v a,R v a->RL P N ops Q rest (upd ρ d v) a)(hw:fO N ops ρ ⟨some d,op,ty,pos,af,g⟩=true:=by exact rfl)(hd:Nat.blt d N=true:=by exact rfl):RL P N ops Q (⟨some d,op,ty,pos,af,g⟩::rest) ρ w:=pK hw hd h k
theorem xb {R:Nat->World->Prop}(h: ∃v a,Do P ⟨some d,op,ty,pos,af,g⟩ ρ w v a/\ ∃b,v= .pointer (some ⟨b,0,none⟩)/\R b a)(k: ∀b a,R b a->RL P N ops Q rest (upd ρ d (.pointer (some ⟨b,0,none⟩))) a)(hw:fO N ops ρ ⟨some d,op,ty,pos,af,g⟩=true:=by exact rfl)(hd:Nat.blt d N=true:=by exact rfl):RL P N ops Q (⟨some d,op,ty,pos,af,g⟩::rest) ρ w:=pK hw hd h λ_ _ ⟨b,e,q⟩=>e▸k b _ q
theorem ln {L:List α}{rr:Rp α}{F:Nat->Prop}{k:Int->Option β}{b:World}(f:gG (L.length:Int) k=some r)(h:SlF rr F b v L)(hu:P.underlying t=some (.slice e))(n: ∀x,k x=some r->RL P N ops Q rest (upd ρ d (.int .i64 x)) w)(hx:ev ρ x=v:=by exact rfl)(hw:fO N ops ρ ⟨some d,.call {callee:= .builtin .len,args:= #[x],argTypes:= #[t]},ty,pos,af,g⟩=true:=by exact rfl)(i:Nat.blt d N=true:=by exact rfl):RL P N ops Q (⟨some d,.call {callee:= .builtin .len,args:= #[x],argTypes:= #[t]},ty,pos,af,g⟩::rest) ρ w:=by
 obtain⟨a,c,q⟩:=SlF.len h;exact aG hw i (aA hu (hx.trans q)) (n _ f)
theorem rea {L:List α}{a:α}{rr:Rp α}{j:Int}{kk:IntKind}(H:Hd O wo w S l)(k:SlF rr (frees O l) w v L)(z:Value)(h:at' L j=some a)(hu:P.underlying t=some (.slice e))(hs:Sz P e 1)(m:aAs P tt)(n: ∀b o,Hd O wo w S (l++[.fz (.at b (o+j.toNat*1) [z])])->RL P N ops Q rest (upd (upd ρ d (.pointer (some ⟨b,o+j.toNat*1,none⟩))) dd z) w)(hc: ∀F w cs,rr.rd F w cs a->cs=[z]:=by exact λ_ _ _ h=>h)(p:rr.sz=1:=by exact rfl)(hx:ev ρ x=v:=by exact rfl)(hy:ev ρ y= .int kk j:=by exact rfl)(r: ∀q,ev (upd ρ d q) xx=q:=by exact λ_=>rfl)(hw:fO N ops ρ ⟨some d,.indexAddr t x y,ty,pos,af,g⟩=true:=by exact rfl)(hd:Nat.blt d N=true:=by exact rfl)(hv: ∀q,fO N ops (upd ρ d q) ⟨some dd,.load tt xx,tyy,poo,aff,gg⟩=true:=by exact λ_=>rfl)(s:Nat.blt dd N=true:=by exact rfl):RL P N ops Q (⟨some d,.indexAddr t x y,ty,pos,af,g⟩::⟨some dd,.load tt xx,tyy,poo,aff,gg⟩::rest) ρ w:=by
 obtain⟨b,o,c,cs,q,u,A,B,f⟩:=yZ k h;obtain rfl:=hc _ _ _ u;rw [p]at f;refine aG hw hd (kG hu hs (hx.trans q) hy (xA h).1 (xA h).2.1 rfl rfl) (aG (hv _) s (yP m (r _) (Cells.get f (i:=0) rfl)) ?_);exact n b o (H.fz (.at b (o+j.toNat*1) [z]) ⟨A,B,f⟩)
theorem cAz {V:Value}{R:World->Prop}(he:Go.OB.Enters P f)(hc:Calls P f vs.toArray w λe a=>e= .returned V/\R a)(n: ∀a,R a->RL P N ops Q rest (upd ρ d V) a)(ha:args.toList.map (ev ρ)=vs:=by exact rfl)(hw:fO N ops ρ ⟨some d,.call {callee:= .value (.func f),args:=args,argTypes:=at_},ty,pos,af,g⟩=true:=by exact rfl)(b:Nat.blt d N=true:=by exact rfl):RL P N ops Q (⟨some d,.call {callee:= .value (.func f),args:=args,argTypes:=at_},ty,pos,af,g⟩::rest) ρ w:=yY hw b (xE he ha) hc λ_ _ ⟨e,q⟩=>⟨_,e,n _ q⟩
theorem cAa {V:A->Value}{R:A->World->Prop}(he:Go.OB.Enters P f)(hc:Calls P f vs.toArray w λe b=> ∃a,e= .returned (V a)/\R a b)(n: ∀a b,R a b->RL P N ops Q rest (upd ρ d (V a)) b)(ha:args.toList.map (ev ρ)=vs:=by exact rfl)(hw:fO N ops ρ ⟨some d,.call {callee:= .value (.func f),args:=args,argTypes:=at_},ty,pos,af,g⟩=true:=by exact rfl)(c:Nat.blt d N=true:=by exact rfl):RL P N ops Q (⟨some d,.call {callee:= .value (.func f),args:=args,argTypes:=at_},ty,pos,af,g⟩::rest) ρ w:=yY hw c (xE he ha) hc λ_ _ ⟨a,e,q⟩=>⟨_,e,n a _ q⟩
theorem cAb {V:A->B->Value}{R:A->B->World->Prop}(he:Go.OB.Enters P f)(hc:Calls P f vs.toArray w λe c=> ∃a b,e= .returned (V a b)/\R a b c)(n: ∀a b c,R a b c->RL P N ops Q rest (upd ρ d (V a b)) c)(ha:args.toList.map (ev ρ)=vs:=by exact rfl)(hw:fO N ops ρ ⟨some d,.call {callee:= .value (.func f),args:=args,argTypes:=at_},ty,pos,af,g⟩=true:=by exact rfl)(h:Nat.blt d N=true:=by exact rfl):RL P N ops Q (⟨some d,.call {callee:= .value (.func f),args:=args,argTypes:=at_},ty,pos,af,g⟩::rest) ρ w:=yY hw h (xE he ha) hc λ_ _ ⟨a,b,e,q⟩=>⟨_,e,n a b _ q⟩
theorem cAc {V:A->B->C->Value}{R:A->B->C->World->Prop}(he:Go.OB.Enters P f)(hc:Calls P f vs.toArray w λe h=> ∃a b c,e= .returned (V a b c)/\R a b c h)(n: ∀a b c h,R a b c h->RL P N ops Q rest (upd ρ d (V a b c)) h)(ha:args.toList.map (ev ρ)=vs:=by exact rfl)(hw:fO N ops ρ ⟨some d,.call {callee:= .value (.func f),args:=args,argTypes:=at_},ty,pos,af,g⟩=true:=by exact rfl)(i:Nat.blt d N=true:=by exact rfl):RL P N ops Q (⟨some d,.call {callee:= .value (.func f),args:=args,argTypes:=at_},ty,pos,af,g⟩::rest) ρ w:=yY hw i (xE he ha) hc λ_ _ ⟨a,b,c,e,q⟩=>⟨_,e,n a b c _ q⟩
theorem cAd {V:A->B->C->D->Value}{R:A->B->C->D->World->Prop}(he:Go.OB.Enters P f)(hc:Calls P f vs.toArray w λe h=> ∃a b c z,e= .returned (V a b c z)/\R a b c z h)(n: ∀a b c z h,R a b c z h->RL P N ops Q rest (upd ρ d (V a b c z)) h)(ha:args.toList.map (ev ρ)=vs:=by exact rfl)(hw:fO N ops ρ ⟨some d,.call {callee:= .value (.func f),args:=args,argTypes:=at_},ty,pos,af,g⟩=true:=by exact rfl)(i:Nat.blt d N=true:=by exact rfl):RL P N ops Q (⟨some d,.call {callee:= .value (.func f),args:=args,argTypes:=at_},ty,pos,af,g⟩::rest) ρ w:=yY hw i (xE he ha) hc λ_ _ ⟨a,b,c,z,e,q⟩=>⟨_,e,n a b c z _ q⟩
abbrev KOne (rr:Rp α)(f:α->Value):Prop:=(∀F w c x,rr.rd F w c x↔c=[f x])/\rr.sz=1/\ ∀x,(f x).cells= #[f x]
theorem aVx:KOne Rp.str (λs=> .string (bs s)):=⟨λ_ _ _ _=>Iff.rfl,rfl,λ_=>rfl⟩
theorem kInt:KOne (Rp.int .i64) (.int .i64):=⟨λ_ _ _ _=>Iff.rfl,rfl,λ_=>rfl⟩
theorem kByt:KOne (Rp.int .u8) (.int .u8):=⟨λ_ _ _ _=>Iff.rfl,rfl,λ_=>rfl⟩
theorem ll {rr:Rp α}{f:α->Value}(k:KOne rr f){len bytes:Nat}{zs:List Value}{parts:Array (Nat×Operand)}(xl:List α)(hu:P.underlying t=some (.slice e))(he:El P e rr.sz bytes zs)(H:Hd O wo w S l)(hn:xl.length=len:=by exact rfl)(hp:Nat.blt 0 len=true:=by exact rfl)(hs:Nat.ble len 16777216=true:=by exact rfl)(hi:parts.toList.map Prod.fst=List.range len:=by exact rfl)(hv:parts.toList.map (λp=>ev ρ p.2)=xl.map f:=by exact rfl): ∃v b,Do P ⟨some d,.buildSlice t len parts,ty,pos,af,g⟩ ρ w v b/\fK w b/\Hd O wo b S (l++[.own rr v e xl]):=by
 obtain⟨hl,a,hc⟩:=k;have j: ∀xl:List α,aZv 1 (xl.map f):=λxl=>by
  induction xl with
  |nil=>exact True.intro
  |cons x xl ih=>exact⟨by rw [hc];rfl,ih⟩
 have m: ∀xl:List α,rows rr (frees O l) w (xl.map f) xl:=λxl=>by
  induction xl with
  |nil=>rfl
  |cons x xl ih=>exact⟨[f x],_,rfl,(hl _ _ _ _).2 rfl,ih⟩
 have n:(xl.map f).flatMap (λv=>v.cells.toList)=xl.map f:=by
  clear hn hv
  induction xl with
  |nil=>rfl
  |cons x xl ih=>rw [List.map_cons,List.flatMap_cons,ih,hc];rfl
 have c:len*rr.sz<=16777216:=by rw [a,Nat.mul_one];exact Nat.le_of_ble_eq_true hs
 have h:0<len*rr.sz:=by rw [a,Nat.mul_one];exact Nat.le_of_ble_eq_true hp
 have i:jA rr.sz len zs (parts.toList.map λp=>(p.1,ev ρ p.2))=some (xl.map f):=mF (by rw [a];decide) hi hv (by rw [a];exact j xl) n;exact aMb (Lx_bs hu he c h hn i H (m xl)) (aNo hu he c h i)
theorem snd3 {R Y Z:Value->World->Prop}(h: ∃v c,R v c/\Y v c/\Z v c): ∃v c,R v c/\Z v c:=let ⟨v,c,a,_,b⟩:=h;⟨v,c,a,b⟩
theorem kl {rr:Rp α}{f:α->Value}(k:KOne rr f){len bytes:Nat}{zs:List Value}{parts:Array (Nat×Operand)}(xl:List α)(hu:P.underlying t=some (.slice e))(he:El P e rr.sz bytes zs)(H:Hd O wo w S l)(hn:xl.length=len:=by exact rfl)(hp:Nat.blt 0 len=true:=by exact rfl)(hs:Nat.ble len 16777216=true:=by exact rfl)(hi:parts.toList.map Prod.fst=List.range len:=by exact rfl)(hv:parts.toList.map (λp=>ev ρ p.2)=xl.map f:=by exact rfl): ∃v a,Do P ⟨some d,.buildSlice t len parts,ty,pos,af,g⟩ ρ w v a/\Hd O wo a S (l++[.own rr v e xl]):=snd3 (ll k xl hu he H hn hp hs hi hv)
theorem lOne (rr:Rp α)(x:α)(cs:List Value){bytes:Nat}{zs:List Value}{q:Operand}(hu:P.underlying t=some (.slice e))(he:El P e rr.sz bytes zs)(hr:rr.rd (frees O l) w cs x)(H:Hd O wo w S l)(a:cs.length=rr.sz:=by exact rfl)(c:Nat.blt 0 cs.length=true:=by exact rfl)(j:Nat.ble cs.length 16777216=true:=by exact rfl)(hv:ev ρ q= .agg cs.toArray:=by exact rfl): ∃v b,Do P ⟨some d,.buildSlice t 1 #[(0,q)],ty,pos,af,g⟩ ρ w v b/\fK w b/\Hd O wo b S (l++[.own rr v e [x]]):=by
 have f:1*rr.sz<=16777216:=by rw [<-a,Nat.one_mul];exact Nat.le_of_ble_eq_true j
 have h:0<1*rr.sz:=by rw [<-a,Nat.one_mul];exact Nat.le_of_ble_eq_true c
 have i:jA rr.sz 1 zs ((#[(0,q)]:Array (Nat×Operand)).toList.map λp=>(p.1,ev ρ p.2))=some cs:=mF (vs:=[.agg cs.toArray]) (by rw [<-a];exact Nat.le_of_ble_eq_true c) rfl (by simp [hv]) ⟨by rw [<-a];simp [Value.cells],T1⟩ (by simp [Value.cells]);exact aMb (Lx_bs hu he f h rfl i H ⟨cs,[],by simp,hr,rfl⟩) (aNo hu he f h i)
theorem vJ (rr:Rp α)(x:α)(cs:List Value){bytes:Nat}{zs:List Value}{q:Operand}(hu:P.underlying t=some (.slice e))(he:El P e rr.sz bytes zs)(hr:rr.rd (frees O l) w cs x)(H:Hd O wo w S l)(b:cs.length=rr.sz:=by exact rfl)(c:Nat.blt 0 cs.length=true:=by exact rfl)(f:Nat.ble cs.length 16777216=true:=by exact rfl)(hv:ev ρ q= .agg cs.toArray:=by exact rfl): ∃v a,Do P ⟨some d,.buildSlice t 1 #[(0,q)],ty,pos,af,g⟩ ρ w v a/\Hd O wo a S (l++[.own rr v e [x]]):=snd3 (lOne rr x cs hu he hr H b c f hv)
theorem Xu {κ:List MxM.Kd}{K:MxM.Mm->Env->World->Prop}{k:Nat}{M:MxM.Mm}{σ Si:List Nat}{vo:World}{R:World->World->Prop}(h: ∀b,fK w b-> ∃a,DoU P ⟨none,op,ty,pos,af,g⟩ ρ b a/\R b a)(n: ∀b a,fK w b->R b a->MxM.XL P (λa=>Only Si vo a) N ops κ K none σ rest ρ a)(ho: ∀b a,R b a->Only Si vo a:=by exact λ_ _ h=>h.only)(hk:MxM.kdOf κ k= .eff:=by exact rfl)(hw:fO N ops ρ ⟨none,op,ty,pos,af,g⟩=true:=by exact rfl):MxM.XL P (λa=>Only Si vo a) N ops κ K M (k::σ) (⟨none,op,ty,pos,af,g⟩::rest) ρ w:=MxM.XL_exU oS hk hw h λ_ _ s q=>⟨ho _ _ q,n _ _ s q⟩
theorem Xe {κ:List MxM.Kd}{K:MxM.Mm->Env->World->Prop}{k:Nat}{M:MxM.Mm}{σ Si:List Nat}{vo:World}{R:World->Value->World->Prop}(h: ∀b,fK w b-> ∃v a,Do P ⟨some d,op,ty,pos,af,g⟩ ρ b v a/\R b v a)(n: ∀b v a,fK w b->R b v a->MxM.XL P (λa=>Only Si vo a) N ops κ K none σ rest (upd ρ d v) a)(ho: ∀b v a,R b v a->Only Si vo a:=by exact λ_ _ _ h=>h.only)(hk:MxM.kdOf κ k= .eff:=by exact rfl)(hw:fO N ops ρ ⟨some d,op,ty,pos,af,g⟩=true:=by exact rfl)(hd:Nat.blt d N=true:=by exact rfl):MxM.XL P (λa=>Only Si vo a) N ops κ K M (k::σ) (⟨some d,op,ty,pos,af,g⟩::rest) ρ w:=MxM.XL_ex oS hk hw hd h λ_ _ _ s q=>⟨ho _ _ _ q,n _ _ _ s q⟩
end
abbrev Cl (f:Nat)(a:List Value)(w:World)(R:Ending->World->Prop):Prop:=Calls Tryz.prog f a.toArray w R
abbrev Rt (f:Nat)(a:List Value)(v:Value)(w:World)(O S:List Nat)(L:List Th):Prop:=Cl f a w λe h=>e= .returned v/\Hd O w h S L
abbrev i6 (n:Int):Value:= .int .i64 n
abbrev sb (s:Str):Value:= .string (bs s)
abbrev f1 {α:Type}(r:Rp α)(v:Value)(l:List α):Th:= .fz (.sl r v l)
theorem Hbc {O S:List Nat}{a w:World}{l:List Th}{b:Nat}{T:TypeId}{cs:List Value}(H:Hd O a w S l)(i:Nat)(h:l[i]? =some (.blk b cs T)):Cells w ⟨b,0,none⟩ cs:=Blk.cells (H.V h)
theorem Hbg {O S:List Nat}{a w:World}{l:List Th}{b:Nat}{T:TypeId}{cs:List Value}{v:Value}(H:Hd O a w S l)(i j:Nat)(h:l[i]? =some (.blk b cs T))(c:cs[j]? =some v):w.cell? ⟨b,0+j,none⟩=some v:=Cells.get (Blk.cells (H.V h)) c
theorem XP {P:Program}{I:World->Prop}{N:Nat}{ops:Array Oper}{κ:List MxM.Kd}{K:MxM.Mm->Env->World->Prop}{k:Nat}{M:MxM.Mm}{σ:List Nat}{rest:List Oper}{ρ:Env}{w:World}{d:Nat}{ty:TypeId}{pos:String}{af:Array Edge}{g:Option (Nat×Bool)}{v:Value}{op:Op}(h: ∀a,I a->Do P ⟨some d,op,ty,pos,af,g⟩ ρ a v a)(n:MxM.XL P I N ops κ K M σ rest (upd ρ d v) w)(hk:MxM.kdOf κ k= .pure:=by exact rfl)(hw:fO N ops ρ ⟨some d,op,ty,pos,af,g⟩=true:=by exact rfl)(hd:Nat.blt d N=true:=by exact rfl):MxM.XL P I N ops κ K M (k::σ) (⟨some d,op,ty,pos,af,g⟩::rest) ρ w:=MxM.XL_pure hk hw hd h n
theorem XO {P:Program}{I:World->Prop}{N:Nat}{ops:Array Oper}{κ:List MxM.Kd}{K:MxM.Mm->Env->World->Prop}{k:Nat}{M:MxM.Mm}{σ:List Nat}{rest:List Oper}{ρ:Env}{w:World}{d:Nat}{ty:TypeId}{pos:String}{af:Array Edge}{g:Option (Nat×Bool)}{op:Op}(n:MxM.XL P I N ops κ K M σ rest (upd ρ d undef) w)(hk:MxM.kdOf κ k= .pure:=by exact rfl)(hw:fO N ops ρ ⟨some d,op,ty,pos,af,g⟩=false:=by exact rfl)(hd:Nat.blt d N=true:=by exact rfl):MxM.XL P I N ops κ K M (k::σ) (⟨some d,op,ty,pos,af,g⟩::rest) ρ w:=MxM.XL_offp hk hw hd n
theorem XM {P:Program}{I:World->Prop}{N:Nat}{ops:Array Oper}{κ:List MxM.Kd}{K:MxM.Mm->Env->World->Prop}{k:Nat}{M:MxM.Mm}{σ:List Nat}{rest:List Oper}{ρ:Env}{w:World}{d:Nat}{ty:TypeId}{pos:String}{af:Array Edge}{g:Option (Nat×Bool)}{x:Operand}(v:Value)(n:MxM.XL P I N ops κ K M σ rest (upd ρ d v) w)(hx:ev ρ x=v:=by exact rfl)(hk:MxM.kdOf κ k= .pure:=by exact rfl)(hw:fO N ops ρ ⟨some d,.move x,ty,pos,af,g⟩=true:=by exact rfl)(hd:Nat.blt d N=true:=by exact rfl):MxM.XL P I N ops κ K M (k::σ) (⟨some d,.move x,ty,pos,af,g⟩::rest) ρ w:=MxM.XL_pure hk hw hd (λ_ _=>bW hx) n
theorem XR {P:Program}{c:World}{e:List Nat}{N:Nat}{ops:Array Oper}{κ:List MxM.Kd}{K:MxM.Mm->Env->World->Prop}{k:Nat}{M:MxM.Mm}{σ:List Nat}{rest:List Oper}{ρ:Env}{w:World}{d:Nat}{ty:TypeId}{pos:String}{af:Array Edge}{g:Option (Nat×Bool)}{t:TypeId}{x:Operand}{O S:List Nat}{f:World}{l:List Th}{b:Nat}{T:TypeId}{cs:List Value}{v:Value}(o:aAs P t)(H:Hd O f w S l)(i j:Nat)(h:l[i]? =some (.blk b cs T))(m:cs[j]? =some v)(n:MxM.XL P (λa=>Only e c a) N ops κ K M σ rest (upd ρ d v) w)(hx:ev ρ x= .pointer (some ⟨b,0+j,none⟩):=by exact rfl)(hk:MxM.kdOf κ k= .read:=by exact rfl)(hw:fO N ops ρ ⟨some d,.load t x,ty,pos,af,g⟩=true:=by exact rfl)(hd:Nat.blt d N=true:=by exact rfl):MxM.XL P (λa=>Only e c a) N ops κ K M (k::σ) (⟨some d,.load t x,ty,pos,af,g⟩::rest) ρ w:=MxM.xJ oS hk hw hd (λ_ p=>yP o hx (Hbg (H.Z p) i j h m)) n
theorem Ld {P:Program}{N:Nat}{ops:Array Oper}{Q:Exit->Env->World->Prop}{rest:List Oper}{ρ:Env}{w:World}{d:Nat}{t ty:TypeId}{x:Operand}{pos:String}{af:Array Edge}{g:Option (Nat×Bool)}{O S:List Nat}{a:World}{l:List Th}{b:Nat}{T:TypeId}{cs:List Value}{v:Value}(o:aAs P t)(H:Hd O a w S l)(i j:Nat)(h:l[i]? =some (.blk b cs T))(c:cs[j]? =some v)(k:RL P N ops Q rest (upd ρ d v) w)(hx:ev ρ x= .pointer (some ⟨b,0+j,none⟩):=by exact rfl)(hw:fO N ops ρ ⟨some d,.load t x,ty,pos,af,g⟩=true:=by exact rfl)(hd:Nat.blt d N=true:=by exact rfl):RL P N ops Q (⟨some d,.load t x,ty,pos,af,g⟩::rest) ρ w:=zI (yP o hx (Hbg H i j h c)) k hw hd
theorem fF {f:FuncId}{fn:Func}(h:Tryz.prog.funcs[f]? =some fn)(a:fn.body.isSome=true:=by exact rfl)(b:(fn.name== "runtime.NumGoroutine")=false:=by kernel_rfl):Go.OB.Enters Tryz.prog f:=⟨_,h,a,b⟩
theorem u2:Tryz.prog.underlying 2=some (.int .i64):=Tryz.underlying2
theorem u3:Tryz.prog.underlying 3=some (.int .i64):=Tryz.underlying3
theorem u4:Tryz.prog.underlying 4=some .bool:=Tryz.underlying4
theorem u5:Tryz.prog.underlying 5=some (.int .u8):=Tryz.underlying5
theorem u9:Tryz.prog.underlying 9=some .string:=Tryz.underlying9
theorem u22:Tryz.prog.underlying 22=some (.slice 128):=Tryz.underlying22
theorem u25:Tryz.prog.underlying 25=some (.slice 56):=Tryz.underlying25
theorem u26:Tryz.prog.underlying 26=some (.slice 116):=Tryz.underlying26
theorem u29:Tryz.prog.underlying 29=some (.slice 9):=Tryz.underlying29
theorem u31:Tryz.prog.underlying 31=some (.slice 98):=Tryz.underlying31
theorem u37:Tryz.prog.underlying 37=some (.slice 90):=Tryz.underlying37
theorem u42:Tryz.prog.underlying 42=some (.slice 46):=Tryz.underlying42
theorem u50:Tryz.prog.underlying 50=some (.slice 3):=Tryz.underlying50
theorem u54:Tryz.prog.underlying 54=some (.slice 146):=Tryz.underlying54
theorem u58:Tryz.prog.underlying 58=some (.slice 5):=Tryz.underlying58
theorem u72:Tryz.prog.underlying 72=some (.slice 207):=Tryz.underlying72
theorem u73:Tryz.prog.underlying 73=some (.slice 211):=Tryz.underlying73
theorem u83:Tryz.prog.underlying 83=some (.map 98 4):=Tryz.underlying83
theorem u86:Tryz.prog.underlying 86=some (.slice 166):=Tryz.underlying86
theorem u111:Tryz.prog.underlying 111=some (.int .u16):=Tryz.underlying111
theorem aBd:Tryz.prog.underlying 113=some (.array 64 111):=Tryz.underlying113
theorem aVv:Tryz.prog.underlying 114=some (.array 64 3):=Tryz.underlying114
theorem aHu:Tryz.prog.underlying 126=some (.slice 251):=Tryz.underlying126
theorem u131:Tryz.prog.underlying 131=some (.slice 137):=Tryz.underlying131
theorem aPc:Tryz.prog.underlying 135=some (.slice 139):=Tryz.underlying135
theorem aQb:Tryz.prog.underlying 144=some (.slice 197):=Tryz.underlying144
theorem rZ:Tryz.prog.underlying 203=some (.slice 205):=Tryz.underlying203
theorem u231:Tryz.prog.underlying 231=some (.map 282 3):=Tryz.underlying231
theorem u238:Tryz.prog.underlying 238=some (.array 16 116):=Tryz.underlying238
theorem u250:Tryz.prog.underlying 250=some (.int .u64):=Tryz.underlying250
theorem vT:Tryz.prog.underlying 254=some (.map 3 3):=Tryz.underlying254
theorem u270:Tryz.prog.underlying 270=some (.map 9 4):=Tryz.underlying270
theorem u279:Tryz.prog.underlying 279=some (.slice 282):=Tryz.underlying279
theorem u322:Tryz.prog.underlying 322=some (.array 4 111):=Tryz.underlying322
theorem u331:Tryz.prog.underlying 331=some (.array 7 9):=Tryz.underlying331
theorem aIa:Tryz.prog.underlying 360=some (.map 3 359):=Tryz.underlying360
theorem fo154_2:aBw Tryz.prog 154 2=some (2,3):=by kernel_rfl
theorem fo154_3:aBw Tryz.prog 154 3=some (3,9):=by kernel_rfl
theorem fo342_3:aBw Tryz.prog 342 3=some (3,340):=by kernel_rfl
theorem ui305:Tryz.prog.underlying 305=some (.interface (Tryz.prog.methodsAt 305)):=by kernel_rfl
abbrev szZ (a b:Nat):Prop:=Sz Tryz.prog a b
theorem szO {a b:Nat}(h:Sz Tryz.prog a b:=by unfold Sz;kernel_rfl):szZ a b:=h
theorem sz3:szZ 3 1:=szO
theorem sz4:szZ 4 1:=szO
theorem sz9:szZ 9 1:=szO
theorem aMu:szZ 24 2:=szO
theorem vM:szZ 28 4:=szO
theorem sz29:szZ 29 1:=szO
theorem sz46:szZ 46 2:=szO
theorem pW:szZ 56 4:=szO
theorem sz58:szZ 58 1:=szO
theorem sz72:szZ 72 1:=szO
theorem sz73:szZ 73 1:=szO
theorem tN:szZ 75 3:=szO
theorem sz85:szZ 85 1:=szO
theorem sz86:szZ 86 1:=szO
theorem kX:szZ 88 2:=szO
theorem aQi:szZ 90 4:=szO
theorem aJn:szZ 98 2:=szO
theorem pM:szZ 111 1:=szO
theorem sz113:szZ 113 64:=szO
theorem sz114:szZ 114 64:=szO
theorem bU:szZ 116 132:=szO
theorem eQ:szZ 128 8:=szO
theorem sz135:szZ 135 1:=szO
theorem qQ:szZ 137 4:=szO
theorem aAy:szZ 139 4:=szO
theorem aDa:szZ 146 4:=szO
theorem aNn:szZ 154 4:=szO
theorem sz158:szZ 158 2:=szO
theorem jK:szZ 166 3:=szO
theorem wI:szZ 197 4:=szO
theorem sz203:szZ 203 1:=szO
theorem fH:szZ 205 7:=szO
theorem aEh:szZ 207 9:=szO
theorem nI:szZ 211 8:=szO
theorem sz238:szZ 238 2112:=szO
theorem uA:szZ 251 4:=szO
theorem sz270:szZ 270 1:=szO
theorem aNv:szZ 282 3:=szO
theorem sz329:szZ 329 1:=szO
theorem mP:szZ 333 7:=szO
theorem jB:szZ 342 4:=szO
theorem sz358:szZ 358 1:=szO
abbrev rY (a:Nat):Prop:=aAs Tryz.prog a
theorem sU {a:Nat}(h:aAs Tryz.prog a:=by unfold aAs;kernel_rfl):rY a:=h
theorem fC:rY 3:=sU
theorem aBb:rY 4:=sU
theorem dN:rY 9:=sU
theorem aCw:rY 22:=sU
theorem aCu:rY 25:=sU
theorem aBa:rY 26:=sU
theorem sK:rY 29:=sU
theorem one32:rY 32:=sU
theorem one54:rY 54:=sU
theorem aYx:rY 58:=sU
theorem aRu:rY 72:=sU
theorem aAz:rY 73:=sU
theorem one85:rY 85:=sU
theorem sG:rY 86:=sU
theorem jR:rY 111:=sU
theorem aDl:rY 126:=sU
theorem aLp:rY 135:=sU
theorem aGf:rY 144:=sU
theorem kR:rY 152:=sU
theorem aDs:rY 203:=sU
theorem aWl:rY 270:=sU
theorem one329:rY 329:=sU
theorem one340:rY 340:=sU
theorem aVm:rY 358:=sU
abbrev qY (a:Nat):Prop:=Agg Tryz.prog a
theorem rX {a:Nat}(h:Agg Tryz.prog a:=by unfold Agg;kernel_rfl):qY a:=h
theorem aDd:qY 24:=rX
theorem nG:qY 28:=rX
theorem uV:qY 56:=rX
theorem rM:qY 75:=rX
theorem nC:qY 88:=rX
theorem agg90:qY 90:=rX
theorem aNw:qY 98:=rX
theorem aXq:qY 113:=rX
theorem agg114:qY 114:=rX
theorem uG:qY 116:=rX
theorem eU:qY 128:=rX
theorem aDn:qY 137:=rX
theorem aLj:qY 139:=rX
theorem aGt:qY 146:=rX
theorem aVe:qY 154:=rX
theorem aBf:qY 166:=rX
theorem aFq:qY 197:=rX
theorem fV:qY 205:=rX
theorem aRe:qY 207:=rX
theorem aEc:qY 211:=rX
theorem agg238:qY 238:=rX
theorem aFv:qY 251:=rX
theorem aOo:qY 282:=rX
theorem uN:qY 333:=rX
theorem qV:qY 342:=rX
theorem zero3:Go.OB.Zero Tryz.prog 3 ([i6 0]):=by unfold Go.OB.Zero;kernel_rfl
theorem zero4:Go.OB.Zero Tryz.prog 4 ([vb false]):=by unfold Go.OB.Zero;kernel_rfl
theorem zero29:Go.OB.Zero Tryz.prog 29 ([.slice none 0 0]):=by unfold Go.OB.Zero;kernel_rfl
theorem aDv:Go.OB.Zero Tryz.prog 56 ([.string (bs []),.string (bs []),.slice none 0 0,i6 0]):=by unfold Go.OB.Zero;kernel_rfl
theorem aQk:Go.OB.Zero Tryz.prog 75 ([.slice none 0 0,.slice none 0 0,.slice none 0 0]):=by unfold Go.OB.Zero;kernel_rfl
theorem zero85:Go.OB.Zero Tryz.prog 85 ([.nilFunc]):=by unfold Go.OB.Zero;kernel_rfl
theorem aAu:Go.OB.Zero Tryz.prog 88 ([i6 0,.slice none 0 0]):=by unfold Go.OB.Zero;kernel_rfl
theorem zero90:Go.OB.Zero Tryz.prog 90 ([.string (bs []),i6 0,.slice none 0 0,i6 0]):=by unfold Go.OB.Zero;kernel_rfl
theorem aXh:Go.OB.Zero Tryz.prog 98 ([i6 0,i6 0]):=by unfold Go.OB.Zero;kernel_rfl
theorem aFf:Go.OB.Zero Tryz.prog 116 ([i6 0,.int .u16 0,.int .u16 0,.int .u16 0,.int .u16 0,.int .u16 0,.int .u16 0,.int .u16 0,.int .u16 0,.int .u16 0,.int .u16 0,.int .u16 0,.int .u16 0,.int .u16 0,.int .u16 0,.int .u16 0,.int .u16 0,.int .u16 0,.int .u16 0,.int .u16 0,.int .u16 0,.int .u16 0,.int .u16 0,.int .u16 0,.int .u16 0,.int .u16 0,.int .u16 0,.int .u16 0,.int .u16 0,.int .u16 0,.int .u16 0,.int .u16 0,.int .u16 0,.int .u16 0,.int .u16 0,.int .u16 0,.int .u16 0,.int .u16 0,.int .u16 0,.int .u16 0,.int .u16 0,.int .u16 0,.int .u16 0,.int .u16 0,.int .u16 0,.int .u16 0,.int .u16 0,.int .u16 0,.int .u16 0,.int .u16 0,.int .u16 0,.int .u16 0,.int .u16 0,.int .u16 0,.int .u16 0,.int .u16 0,.int .u16 0,.int .u16 0,.int .u16 0,.int .u16 0,.int .u16 0,.int .u16 0,.int .u16 0,.int .u16 0,.int .u16 0,i6 0,i6 0,i6 0,i6 0,i6 0,i6 0,i6 0,i6 0,i6 0,i6 0,i6 0,i6 0,i6 0,i6 0,i6 0,i6 0,i6 0,i6 0,i6 0,i6 0,i6 0,i6 0,i6 0,i6 0,i6 0,i6 0,i6 0,i6 0,i6 0,i6 0,i6 0,i6 0,i6 0,i6 0,i6 0,i6 0,i6 0,i6 0,i6 0,i6 0,i6 0,i6 0,i6 0,i6 0,i6 0,i6 0,i6 0,i6 0,i6 0,i6 0,i6 0,i6 0,i6 0,i6 0,i6 0,i6 0,i6 0,i6 0,i6 0,i6 0,i6 0,i6 0,i6 0,i6 0,vb false,i6 0,vb false]):=by unfold Go.OB.Zero;kernel_rfl
theorem sW:Go.OB.Zero Tryz.prog 128 ([.string (bs []),i6 0,.slice none 0 0,i6 0,i6 0,i6 0,i6 0,.slice none 0 0]):=by unfold Go.OB.Zero;kernel_rfl
theorem aCh:Go.OB.Zero Tryz.prog 137 ([i6 0,i6 0,i6 0,.slice none 0 0]):=by unfold Go.OB.Zero;kernel_rfl
theorem aIc:Go.OB.Zero Tryz.prog 139 ([i6 0,i6 0,i6 0,i6 0]):=by unfold Go.OB.Zero;kernel_rfl
theorem bAb:Go.OB.Zero Tryz.prog 146 ([i6 0,.slice none 0 0,i6 0,i6 0]):=by unfold Go.OB.Zero;kernel_rfl
theorem aZn:Go.OB.Zero Tryz.prog 154 ([i6 0,i6 0,i6 0,.string (bs [])]):=by unfold Go.OB.Zero;kernel_rfl
theorem zero158:Go.OB.Zero Tryz.prog 158 ([i6 0,i6 0]):=by unfold Go.OB.Zero;kernel_rfl
theorem aCg:Go.OB.Zero Tryz.prog 166 ([i6 0,i6 0,i6 0]):=by unfold Go.OB.Zero;kernel_rfl
theorem aOq:Go.OB.Zero Tryz.prog 197 ([i6 0,i6 0,i6 0,i6 0]):=by unfold Go.OB.Zero;kernel_rfl
theorem kN:Go.OB.Zero Tryz.prog 205 ([i6 0,.string (bs []),.string (bs []),i6 0,i6 0,i6 0,.slice none 0 0]):=by unfold Go.OB.Zero;kernel_rfl
theorem aOz:Go.OB.Zero Tryz.prog 207 ([.string (bs []),.string (bs []),i6 0,.string (bs []),.string (bs []),i6 0,i6 0,i6 0,.slice none 0 0]):=by unfold Go.OB.Zero;kernel_rfl
theorem aIl:Go.OB.Zero Tryz.prog 211 ([.string (bs []),i6 0,.string (bs []),.string (bs []),i6 0,i6 0,i6 0,.slice none 0 0]):=by unfold Go.OB.Zero;kernel_rfl
theorem zero238:Go.OB.Zero Tryz.prog 238 ((Fl.arr 16 qM).f (Arr.rep 16 (gW.mk 0 (Arr.rep 64 0:Arr 64 Int) (Arr.rep 64 0:Arr 64 Int) false 0 false):Arr 16 gW)):=by unfold Go.OB.Zero;kernel_rfl
theorem aIs:Go.OB.Zero Tryz.prog 251 ([i6 0,i6 0,i6 0,i6 0]):=by unfold Go.OB.Zero;kernel_rfl
theorem zero270:Go.OB.Zero Tryz.prog 270 ([.map none]):=by unfold Go.OB.Zero;kernel_rfl
theorem zero282:Go.OB.Zero Tryz.prog 282 ([i6 0,i6 0,i6 0]):=by unfold Go.OB.Zero;kernel_rfl
theorem zero329:Go.OB.Zero Tryz.prog 329 ([.nilFunc]):=by unfold Go.OB.Zero;kernel_rfl
theorem aZc:Go.OB.Zero Tryz.prog 333 ([vb false,vb false,vb false,vb false,vb false,i6 0,i6 0]):=by unfold Go.OB.Zero;kernel_rfl
theorem uQ:Go.OB.Zero Tryz.prog 342 ([i6 0,i6 0,.nilFunc,.nilFunc]):=by unfold Go.OB.Zero;kernel_rfl
theorem zero358:Go.OB.Zero Tryz.prog 358 ([.nilFunc]):=by unfold Go.OB.Zero;kernel_rfl
theorem el3:El Tryz.prog 3 1 8 ([i6 0]):=⟨by kernel_rfl,by kernel_rfl,by kernel_rfl,by decide,by decide⟩
theorem el5:El Tryz.prog 5 1 1 ([.int .u8 0]):=⟨by kernel_rfl,by kernel_rfl,by kernel_rfl,by decide,by decide⟩
theorem el9:El Tryz.prog 9 1 16 ([.string (bs [])]):=⟨by kernel_rfl,by kernel_rfl,by kernel_rfl,by decide,by decide⟩
theorem el46:El Tryz.prog 46 2 16 ([i6 0,vb false]):=⟨by kernel_rfl,by kernel_rfl,by kernel_rfl,by decide,by decide⟩
theorem el90:El Tryz.prog 90 4 56 ([.string (bs []),i6 0,.slice none 0 0,i6 0]):=⟨by kernel_rfl,by kernel_rfl,by kernel_rfl,by decide,by decide⟩
theorem el98:El Tryz.prog 98 2 16 ([i6 0,i6 0]):=⟨by kernel_rfl,by kernel_rfl,by kernel_rfl,by decide,by decide⟩
theorem el116:El Tryz.prog 116 132 672 ([i6 0,.int .u16 0,.int .u16 0,.int .u16 0,.int .u16 0,.int .u16 0,.int .u16 0,.int .u16 0,.int .u16 0,.int .u16 0,.int .u16 0,.int .u16 0,.int .u16 0,.int .u16 0,.int .u16 0,.int .u16 0,.int .u16 0,.int .u16 0,.int .u16 0,.int .u16 0,.int .u16 0,.int .u16 0,.int .u16 0,.int .u16 0,.int .u16 0,.int .u16 0,.int .u16 0,.int .u16 0,.int .u16 0,.int .u16 0,.int .u16 0,.int .u16 0,.int .u16 0,.int .u16 0,.int .u16 0,.int .u16 0,.int .u16 0,.int .u16 0,.int .u16 0,.int .u16 0,.int .u16 0,.int .u16 0,.int .u16 0,.int .u16 0,.int .u16 0,.int .u16 0,.int .u16 0,.int .u16 0,.int .u16 0,.int .u16 0,.int .u16 0,.int .u16 0,.int .u16 0,.int .u16 0,.int .u16 0,.int .u16 0,.int .u16 0,.int .u16 0,.int .u16 0,.int .u16 0,.int .u16 0,.int .u16 0,.int .u16 0,.int .u16 0,.int .u16 0,i6 0,i6 0,i6 0,i6 0,i6 0,i6 0,i6 0,i6 0,i6 0,i6 0,i6 0,i6 0,i6 0,i6 0,i6 0,i6 0,i6 0,i6 0,i6 0,i6 0,i6 0,i6 0,i6 0,i6 0,i6 0,i6 0,i6 0,i6 0,i6 0,i6 0,i6 0,i6 0,i6 0,i6 0,i6 0,i6 0,i6 0,i6 0,i6 0,i6 0,i6 0,i6 0,i6 0,i6 0,i6 0,i6 0,i6 0,i6 0,i6 0,i6 0,i6 0,i6 0,i6 0,i6 0,i6 0,i6 0,i6 0,i6 0,i6 0,i6 0,i6 0,i6 0,i6 0,i6 0,vb false,i6 0,vb false]):=⟨by kernel_rfl,by kernel_rfl,by kernel_rfl,by decide,by decide⟩
theorem bAt:El Tryz.prog 128 8 104 ([.string (bs []),i6 0,.slice none 0 0,i6 0,i6 0,i6 0,i6 0,.slice none 0 0]):=⟨by kernel_rfl,by kernel_rfl,by kernel_rfl,by decide,by decide⟩
theorem el137:El Tryz.prog 137 4 48 ([i6 0,i6 0,i6 0,.slice none 0 0]):=⟨by kernel_rfl,by kernel_rfl,by kernel_rfl,by decide,by decide⟩
theorem el139:El Tryz.prog 139 4 32 ([i6 0,i6 0,i6 0,i6 0]):=⟨by kernel_rfl,by kernel_rfl,by kernel_rfl,by decide,by decide⟩
theorem aHj:El Tryz.prog 166 3 24 ([i6 0,i6 0,i6 0]):=⟨by kernel_rfl,by kernel_rfl,by kernel_rfl,by decide,by decide⟩
theorem aGy:El Tryz.prog 205 7 88 ([i6 0,.string (bs []),.string (bs []),i6 0,i6 0,i6 0,.slice none 0 0]):=⟨by kernel_rfl,by kernel_rfl,by kernel_rfl,by decide,by decide⟩
theorem el207:El Tryz.prog 207 9 120 ([.string (bs []),.string (bs []),i6 0,.string (bs []),.string (bs []),i6 0,i6 0,i6 0,.slice none 0 0]):=⟨by kernel_rfl,by kernel_rfl,by kernel_rfl,by decide,by decide⟩
theorem aSa:El Tryz.prog 211 8 104 ([.string (bs []),i6 0,.string (bs []),.string (bs []),i6 0,i6 0,i6 0,.slice none 0 0]):=⟨by kernel_rfl,by kernel_rfl,by kernel_rfl,by decide,by decide⟩
theorem el282:El Tryz.prog 282 3 24 ([i6 0,i6 0,i6 0]):=⟨by kernel_rfl,by kernel_rfl,by kernel_rfl,by decide,by decide⟩
theorem z8_5:Z8 Tryz.prog 5:=by unfold Z8;kernel_rfl
theorem bz56:Tryz.prog.built 56 []=some ([.string (bs []),.string (bs []),.slice none 0 0,i6 0]).toArray:=by kernel_rfl
theorem bz60:Tryz.prog.built 60 []=some ([.slice none 0 0]).toArray:=by kernel_rfl
theorem bz75:Tryz.prog.built 75 []=some ([.slice none 0 0,.slice none 0 0,.slice none 0 0]).toArray:=by kernel_rfl
theorem aXa:Tryz.prog.built 88 []=some ([i6 0,.slice none 0 0]).toArray:=by kernel_rfl
theorem bz128:Tryz.prog.built 128 []=some ([.string (bs []),i6 0,.slice none 0 0,i6 0,i6 0,i6 0,i6 0,.slice none 0 0]).toArray:=by kernel_rfl
theorem bz166:Tryz.prog.built 166 []=some ([i6 0,i6 0,i6 0]).toArray:=by kernel_rfl
theorem bz333:Tryz.prog.built 333 []=some ([vb false,vb false,vb false,vb false,vb false,i6 0,i6 0]).toArray:=by kernel_rfl
theorem aQn (a:Option Addr)(b c:Nat):Tryz.prog.built 24 [(1,.slice a b c)]=some [i6 0,.slice a b c].toArray:=by kernel_rfl
theorem bt46_0_1 (a:Int)(b:Bool):Tryz.prog.built 46 [(0,i6 a),(1,vb b)]=some [i6 a,vb b].toArray:=by kernel_rfl
theorem bt88_0 (a:Int):Tryz.prog.built 88 [(0,i6 a)]=some [i6 a,.slice none 0 0].toArray:=by kernel_rfl
theorem aSf (a:Int)(b:Option Addr)(c d:Nat):Tryz.prog.built 88 [(0,i6 a),(1,.slice b c d)]=some [i6 a,.slice b c d].toArray:=by kernel_rfl
theorem aXd (a:Str)(b:Int)(c:Option Addr)(d e:Nat)(f:Int):Tryz.prog.built 90 [(0,sb a),(1,.agg [i6 b,.slice c d e].toArray),(2,i6 f)]=some [sb a,i6 b,.slice c d e,i6 f].toArray:=by kernel_rfl
theorem aJi (a b:Int):Tryz.prog.built 98 [(0,i6 a),(1,i6 b)]=some [i6 a,i6 b].toArray:=by kernel_rfl
theorem bt116_0 (a:Int):Tryz.prog.built 116 [(0,i6 a)]=some [i6 a,.int .u16 0,.int .u16 0,.int .u16 0,.int .u16 0,.int .u16 0,.int .u16 0,.int .u16 0,.int .u16 0,.int .u16 0,.int .u16 0,.int .u16 0,.int .u16 0,.int .u16 0,.int .u16 0,.int .u16 0,.int .u16 0,.int .u16 0,.int .u16 0,.int .u16 0,.int .u16 0,.int .u16 0,.int .u16 0,.int .u16 0,.int .u16 0,.int .u16 0,.int .u16 0,.int .u16 0,.int .u16 0,.int .u16 0,.int .u16 0,.int .u16 0,.int .u16 0,.int .u16 0,.int .u16 0,.int .u16 0,.int .u16 0,.int .u16 0,.int .u16 0,.int .u16 0,.int .u16 0,.int .u16 0,.int .u16 0,.int .u16 0,.int .u16 0,.int .u16 0,.int .u16 0,.int .u16 0,.int .u16 0,.int .u16 0,.int .u16 0,.int .u16 0,.int .u16 0,.int .u16 0,.int .u16 0,.int .u16 0,.int .u16 0,.int .u16 0,.int .u16 0,.int .u16 0,.int .u16 0,.int .u16 0,.int .u16 0,.int .u16 0,.int .u16 0,i6 0,i6 0,i6 0,i6 0,i6 0,i6 0,i6 0,i6 0,i6 0,i6 0,i6 0,i6 0,i6 0,i6 0,i6 0,i6 0,i6 0,i6 0,i6 0,i6 0,i6 0,i6 0,i6 0,i6 0,i6 0,i6 0,i6 0,i6 0,i6 0,i6 0,i6 0,i6 0,i6 0,i6 0,i6 0,i6 0,i6 0,i6 0,i6 0,i6 0,i6 0,i6 0,i6 0,i6 0,i6 0,i6 0,i6 0,i6 0,i6 0,i6 0,i6 0,i6 0,i6 0,i6 0,i6 0,i6 0,i6 0,i6 0,i6 0,i6 0,i6 0,i6 0,i6 0,i6 0,vb false,i6 0,vb false].toArray:=by kernel_rfl
theorem aSx (a b c:Int):Tryz.prog.built 137 [(0,i6 a),(1,i6 b),(2,i6 c)]=some [i6 a,i6 b,i6 c,.slice none 0 0].toArray:=by kernel_rfl
theorem aMj (a b c d:Int):Tryz.prog.built 139 [(0,i6 a),(1,i6 b),(2,i6 c),(3,i6 d)]=some [i6 a,i6 b,i6 c,i6 d].toArray:=by kernel_rfl
theorem bt154_0_1 (a b:Int):Tryz.prog.built 154 [(0,i6 a),(1,i6 b)]=some [i6 a,i6 b,i6 0,.string (bs [])].toArray:=by kernel_rfl
theorem bt156_0 (a:Str):Tryz.prog.built 156 [(0,sb a)]=some [sb a,i6 0,i6 0,i6 0,i6 0,.string (bs []),.slice none 0 0,.slice none 0 0,.slice none 0 0].toArray:=by kernel_rfl
theorem bAo (a:Int):Tryz.prog.built 166 [(0,i6 a)]=some [i6 a,i6 0,i6 0].toArray:=by kernel_rfl
theorem aGx (a b c:Int):Tryz.prog.built 166 [(0,i6 a),(1,i6 b),(2,i6 c)]=some [i6 a,i6 b,i6 c].toArray:=by kernel_rfl
theorem bAv (a:Int):Tryz.prog.built 205 [(0,i6 a)]=some [i6 a,.string (bs []),.string (bs []),i6 0,i6 0,i6 0,.slice none 0 0].toArray:=by kernel_rfl
theorem aGo (a:Int)(b:Str):Tryz.prog.built 205 [(0,i6 a),(1,sb b)]=some [i6 a,sb b,.string (bs []),i6 0,i6 0,i6 0,.slice none 0 0].toArray:=by kernel_rfl
theorem bt205_0_4 (a b:Int):Tryz.prog.built 205 [(0,i6 a),(4,i6 b)]=some [i6 a,.string (bs []),.string (bs []),i6 0,i6 b,i6 0,.slice none 0 0].toArray:=by kernel_rfl
theorem aHp (a b:Int)(c:Option Addr)(d e:Nat):Tryz.prog.built 205 [(0,i6 a),(5,i6 b),(6,.slice c d e)]=some [i6 a,.string (bs []),.string (bs []),i6 0,i6 0,i6 b,.slice c d e].toArray:=by kernel_rfl
theorem wQ (a:Int)(b:Option Addr)(c d:Nat):Tryz.prog.built 205 [(0,i6 a),(6,.slice b c d)]=some [i6 a,.string (bs []),.string (bs []),i6 0,i6 0,i6 0,.slice b c d].toArray:=by kernel_rfl
theorem bt207_0_1 (a b:Str):Tryz.prog.built 207 [(0,sb a),(1,sb b)]=some [sb a,sb b,i6 0,.string (bs []),.string (bs []),i6 0,i6 0,i6 0,.slice none 0 0].toArray:=by kernel_rfl
theorem bt211_0 (a:Str):Tryz.prog.built 211 [(0,sb a)]=some [sb a,i6 0,.string (bs []),.string (bs []),i6 0,i6 0,i6 0,.slice none 0 0].toArray:=by kernel_rfl
theorem aSc (a b c:Int):Tryz.prog.built 282 [(0,i6 a),(1,i6 b),(2,i6 c)]=some [i6 a,i6 b,i6 c].toArray:=by kernel_rfl
theorem bt333_0 (a:Bool):Tryz.prog.built 333 [(0,vb a)]=some [vb a,vb false,vb false,vb false,vb false,i6 0,i6 0].toArray:=by kernel_rfl
theorem aTt (a b c:Bool):Tryz.prog.built 333 [(0,vb a),(1,vb b),(2,vb c)]=some [vb a,vb b,vb c,vb false,vb false,i6 0,i6 0].toArray:=by kernel_rfl
theorem aRw (a b c:Bool):Tryz.prog.built 333 [(0,vb a),(2,vb b),(3,vb c)]=some [vb a,vb false,vb b,vb c,vb false,i6 0,i6 0].toArray:=by kernel_rfl
theorem aTn (a b c:Bool):Tryz.prog.built 333 [(0,vb a),(3,vb b),(4,vb c)]=some [vb a,vb false,vb false,vb b,vb c,i6 0,i6 0].toArray:=by kernel_rfl
theorem aMr (a b:Bool)(c d:Int):Tryz.prog.built 333 [(3,vb a),(4,vb b),(5,i6 c),(6,i6 d)]=some [vb false,vb false,vb false,vb a,vb b,i6 c,i6 d].toArray:=by kernel_rfl
theorem aSu (a:Bool)(b c:Int):Tryz.prog.built 333 [(4,vb a),(5,i6 b),(6,i6 c)]=some [vb false,vb false,vb false,vb false,vb a,i6 b,i6 c].toArray:=by kernel_rfl
theorem aGv (a b:Int):Tryz.prog.built 333 [(5,i6 a),(6,i6 b)]=some [vb false,vb false,vb false,vb false,vb false,i6 a,i6 b].toArray:=by kernel_rfl
abbrev gK (b:Nat):Value:= .pointer (some ⟨b,0,none⟩)
def FAt (t i m:Nat):Prop:= ∀{ρ:Env}{w:World}{d:Option Tmp}{x:Operand}{ty:TypeId}{pos:String}{af:Array Edge}{g:Option (Nat×Bool)}{b o:Nat} (_:ev ρ x= .pointer (some ⟨b,o,none⟩)),Do Tryz.prog ⟨d,.fieldAddr t x i,ty,pos,af,g⟩ ρ w (.pointer (some ⟨b,o+m,none⟩)) w
theorem faO {t i m:Nat}(n:Nat)(h:aJf Tryz.prog t i=some (m,some n):=by kernel_rfl)(hn:n≠0:=by decide):FAt t i m:=λhx=>aMf h hn hx
theorem fa24_0:FAt 24 0 0:=faO 1
theorem vK:FAt 24 1 1:=faO 1
theorem aKe:FAt 28 0 0:=faO 2
theorem vW:FAt 28 1 2:=faO 1
theorem sD:FAt 28 2 3:=faO 1
theorem fa46_0:FAt 46 0 0:=faO 1
theorem fa46_1:FAt 46 1 1:=faO 1
theorem aGw:FAt 56 0 0:=faO 1
theorem fa56_1:FAt 56 1 1:=faO 1
theorem aXl:FAt 56 2 2:=faO 1
theorem aXu:FAt 56 3 3:=faO 1
theorem aEb:FAt 60 0 0:=faO 1
theorem aDr:FAt 75 0 0:=faO 1
theorem aDt:FAt 75 1 1:=faO 1
theorem qA:FAt 75 2 2:=faO 1
theorem aUv:FAt 88 0 0:=faO 1
theorem jG:FAt 88 1 1:=faO 1
theorem aWb:FAt 90 0 0:=faO 1
theorem fa90_1:FAt 90 1 1:=faO 2
theorem fa90_2:FAt 90 2 3:=faO 1
theorem fa98_0:FAt 98 0 0:=faO 1
theorem fa98_1:FAt 98 1 1:=faO 1
theorem jH:FAt 116 0 0:=faO 1
theorem aAj:FAt 116 1 1:=faO 64
theorem wZ:FAt 116 2 65:=faO 64
theorem aIo:FAt 116 3 129:=faO 1
theorem bAk:FAt 116 4 130:=faO 1
theorem fa116_5:FAt 116 5 131:=faO 1
theorem aEg:FAt 128 0 0:=faO 1
theorem xZ:FAt 128 1 1:=faO 1
theorem aAw:FAt 128 2 2:=faO 1
theorem aYq:FAt 128 3 3:=faO 1
theorem aRm:FAt 128 4 4:=faO 1
theorem aAi:FAt 128 5 5:=faO 1
theorem aEq:FAt 128 6 6:=faO 1
theorem aAd:FAt 128 7 7:=faO 1
theorem fa137_1:FAt 137 1 1:=faO 1
theorem fa137_2:FAt 137 2 2:=faO 1
theorem aCf:FAt 137 3 3:=faO 1
theorem aIj:FAt 139 0 0:=faO 1
theorem aIg:FAt 139 1 1:=faO 1
theorem bAn:FAt 139 2 2:=faO 1
theorem aPh:FAt 139 3 3:=faO 1
theorem aZu:FAt 146 0 0:=faO 1
theorem aCp:FAt 146 1 1:=faO 1
theorem aPu:FAt 146 2 2:=faO 1
theorem aOx:FAt 146 3 3:=faO 1
theorem nP:FAt 154 0 0:=faO 1
theorem fa154_2:FAt 154 2 2:=faO 1
theorem aAa:FAt 154 3 3:=faO 1
theorem sS:FAt 156 0 0:=faO 1
theorem kQ:FAt 156 1 1:=faO 1
theorem bG:FAt 156 2 2:=faO 4
theorem aCd:FAt 156 3 6:=faO 3
theorem fa158_0:FAt 158 0 0:=faO 1
theorem aYm:FAt 158 1 1:=faO 1
theorem sV:FAt 166 0 0:=faO 1
theorem aCm:FAt 166 1 1:=faO 1
theorem vF:FAt 166 2 2:=faO 1
theorem aEx:FAt 197 0 0:=faO 1
theorem aFc:FAt 197 1 1:=faO 1
theorem bAs:FAt 197 2 2:=faO 1
theorem aYk:FAt 197 3 3:=faO 1
theorem qH:FAt 205 0 0:=faO 1
theorem aAq:FAt 205 1 1:=faO 1
theorem aIk:FAt 205 2 2:=faO 1
theorem aJb:FAt 205 3 3:=faO 1
theorem aEl:FAt 205 4 4:=faO 1
theorem aIi:FAt 205 5 5:=faO 1
theorem uZ:FAt 205 6 6:=faO 1
theorem fa207_0:FAt 207 0 0:=faO 1
theorem fa207_1:FAt 207 1 1:=faO 1
theorem aJd:FAt 207 2 2:=faO 7
theorem xX:FAt 211 0 0:=faO 1
theorem aFh:FAt 211 1 1:=faO 7
theorem aPm:FAt 251 0 0:=faO 1
theorem aOt:FAt 251 1 1:=faO 1
theorem aOs:FAt 251 2 2:=faO 1
theorem aQy:FAt 251 3 3:=faO 1
theorem aZs:FAt 333 0 0:=faO 1
theorem bAm:FAt 333 1 1:=faO 1
theorem aZe:FAt 333 2 2:=faO 1
theorem aZg:FAt 333 3 3:=faO 1
theorem aZt:FAt 333 4 4:=faO 1
theorem fa333_5:FAt 333 5 5:=faO 1
theorem fa333_6:FAt 333 6 6:=faO 1
theorem eqf3:EqF Tryz.prog 3 (Fl.int .i64) 1:=EqF.int Tryz.underlying3
theorem eqf98:EqF Tryz.prog 98 dR 2:=EqF.struct (k:=1) (λx y h=>by cases x;cases y;simp_all) Tryz.underlying98 (by kernel_rfl) (by unfold Sz;kernel_rfl) ((aLr.cons rfl (by decide) (eqf3.up (by decide)) (aLr.one rfl (by decide) (eqf3.up (by decide)))))
theorem eqf282:EqF Tryz.prog 282 dK 2:=EqF.struct (k:=1) (λx y h=>by cases x;cases y;simp_all) Tryz.underlying282 (by kernel_rfl) (by unfold Sz;kernel_rfl) ((aLr.cons rfl (by decide) (eqf3.up (by decide)) ((aLr.cons rfl (by decide) (eqf3.up (by decide)) (aLr.one rfl (by decide) (eqf3.up (by decide)))))))
theorem wk98:WK Tryz.prog 98 dR:=⟨⟨_,Tryz.underlying98,λ_ _=>rfl⟩,λb a w=>by kernel_rfl,⟨_,by decide,eqf98⟩,aNw,aJn,λa=>by exact sb_of rfl⟩
theorem wk282:WK Tryz.prog 282 dK:=⟨⟨_,Tryz.underlying282,λ_ _=>rfl⟩,λb a w=>by kernel_rfl,⟨_,by decide,eqf282⟩,aOo,aNv,λa=>by exact sb_of rfl⟩
abbrev cZ:=f1 Rp.str
abbrev jE:=f1 dD
abbrev nH:=f1 rW
abbrev qL:=f1 qW
abbrev qO:=f1 mQ
abbrev tZ:=f1 fU
abbrev vY:=f1 fM
abbrev wS:=f1 rU
abbrev aCr:=f1 eG
abbrev aKj:=f1 dB
abbrev aNi:=f1 (Rp.int .i64)
section
variable {O S:List Nat}{v w:World}{a b c d e f g i j k l m n:Th}
abbrev hh (p:Prop):Prop:=p->p
theorem un1:hh (Hd O v w S [a]):=id
theorem un2:hh (Hd O v w S [a,b]):=id
theorem un3:hh (Hd O v w S [a,b,c]):=id
theorem un4:hh (Hd O v w S [a,b,c,d]):=id
theorem un5:hh (Hd O v w S [a,b,c,d,e]):=id
theorem un6:hh (Hd O v w S [a,b,c,d,e,f]):=id
theorem un7:hh (Hd O v w S [a,b,c,d,e,f,g]):=id
theorem un8:hh (Hd O v w S [a,b,c,d,e,f,g,i]):=id
theorem un9:hh (Hd O v w S [a,b,c,d,e,f,g,i,j]):=id
theorem qN:hh (Hd O v w S [a,b,c,d,e,f,g,i,j,k]):=id
theorem aRb:hh (Hd O v w S [a,b,c,d,e,f,g,i,j,k,l]):=id
theorem un12:hh (Hd O v w S [a,b,c,d,e,f,g,i,j,k,l,m]):=id
theorem un13:hh (Hd O v w S [a,b,c,d,e,f,g,i,j,k,l,m,n]):=id
end
section
variable {P:Program}{N:Nat}{ops:Array Oper}{Q:Exit->Env->World->Prop}{rest:List Oper}{ρ:Env}{w:World}{d f:Nat}{t u ty tz:TypeId}{x y:Operand}{pos qos:String}{af bf:Array Edge}{g h:Option (Nat×Bool)}{b o m i:Nat}
theorem nf (hx:ev ρ x= .pointer (some ⟨b,o,none⟩))(fa:FAt t i m)(n:RL Tryz.prog N ops Q rest (upd (upd ρ d (.pointer (some ⟨b,o,none⟩))) f (.pointer (some ⟨b,o+m,none⟩))) w)(hy:ev (upd ρ d (.pointer (some ⟨b,o,none⟩))) y= .pointer (some ⟨b,o,none⟩):=by exact rfl)(hw:fO N ops ρ ⟨some d,.nilCheck x,ty,pos,af,g⟩=true:=by exact rfl)(hd:Nat.blt d N=true:=by exact rfl)(hv:fO N ops (upd ρ d (.pointer (some ⟨b,o,none⟩))) ⟨some f,.fieldAddr t y i,tz,qos,bf,h⟩=true:=by exact rfl)(hf:Nat.blt f N=true:=by exact rfl):RL Tryz.prog N ops Q (⟨some d,.nilCheck x,ty,pos,af,g⟩::⟨some f,.fieldAddr t y i,tz,qos,bf,h⟩::rest) ρ w:=zI (xI hx) (zI (fa hy) n hv hf) hw hd
theorem Xn {I:World->Prop}{κ:List MxM.Kd}{K:MxM.Mm->Env->World->Prop}{k q:Nat}{M:MxM.Mm}{σ:List Nat}(hx:ev ρ x= .pointer (some ⟨b,o,none⟩))(fa:FAt t i m)(n:MxM.XL Tryz.prog I N ops κ K M σ rest (upd (upd ρ d (.pointer (some ⟨b,o,none⟩))) f (.pointer (some ⟨b,o+m,none⟩))) w)(hy:ev (upd ρ d (.pointer (some ⟨b,o,none⟩))) y= .pointer (some ⟨b,o,none⟩):=by exact rfl)(hk:MxM.kdOf κ k= .pure:=by exact rfl)(hq:MxM.kdOf κ q= .pure:=by exact rfl)(hw:fO N ops ρ ⟨some d,.nilCheck x,ty,pos,af,g⟩=true:=by exact rfl)(hd:Nat.blt d N=true:=by exact rfl)(hv:fO N ops (upd ρ d (.pointer (some ⟨b,o,none⟩))) ⟨some f,.fieldAddr t y i,tz,qos,bf,h⟩=true:=by exact rfl)(hf:Nat.blt f N=true:=by exact rfl):MxM.XL Tryz.prog I N ops κ K M (k::q::σ) (⟨some d,.nilCheck x,ty,pos,af,g⟩::⟨some f,.fieldAddr t y i,tz,qos,bf,h⟩::rest) ρ w:=XQ (xI hx) (XQ (fa hy) n hq hv hf) hk hw hd
theorem nJ {I:World->Prop}{κ:List MxM.Kd}{K:MxM.Mm->Env->World->Prop}{M:MxM.Mm}{σ O S:List Nat}{v u:World}{l r:List Th}(G:Hd O v u S r)(H:Hd O u w (bks r) l)(n: ∀a,Hd O v a S l->K M ρ a):MxM.XL P I N ops κ K M σ [] ρ w:=MxM.XL_nil λa s=>n a (G.rj (H.Z s))
end
theorem _root_.Go.Lf.Hd.im {O S:List Nat}{v w:World}{l:List Th}(H:Hd O v w S l)(i:Nat){it:Th}(h:l[i]? =some it):it.holds (frees O l) w:=H.V h
theorem _root_.Go.Lf.Hm.im {n:Nat}{A:Nat->Prop}{O S:List Nat}{v w:World}{l:List Th}(H:Hm n A O v w S l)(i:Nat){it:Th}(h:l[i]? =some it):it.holds (frm O l v) w:=H.V h
theorem p1z {P:Program}{R:Ending->World->Prop}{ρ:Env}{w:World}{rs:Array ResultVar}{t:Tmp}{v:Value}(h:R (.returned v) w)(hr:rs= #[.tmp t]:=by exact rfl)(a:ρ t=v:=by exact rfl):wH P rs R .ret ρ w:=aKp hr a h
theorem en10:En 10:=fF Tryz.func10
theorem en13:En 13:=fF Tryz.func13
theorem en14:En 14:=fF Tryz.func14
theorem en18:En 18:=fF Tryz.func18
theorem en19:En 19:=fF Tryz.func19
theorem en22:En 22:=fF Tryz.func22
theorem en30:En 30:=fF Tryz.func30
theorem en36:En 36:=fF Tryz.func36
theorem en48:En 48:=fF Tryz.func48
theorem en50:En 50:=fF Tryz.func50
theorem en52:En 52:=fF Tryz.func52
theorem en54:En 54:=fF Tryz.func54
theorem en55:En 55:=fF Tryz.func55
theorem en56:En 56:=fF Tryz.func56
theorem en57:En 57:=fF Tryz.func57
theorem en58:En 58:=fF Tryz.func58
theorem en60:En 60:=fF Tryz.func60
theorem en73:En 73:=fF Tryz.func73
theorem en89:En 89:=fF Tryz.func89
theorem en93:En 93:=fF Tryz.func93
theorem en94:En 94:=fF Tryz.func94
theorem en96:En 96:=fF Tryz.func96
theorem en98:En 98:=fF Tryz.func98
theorem en101:En 101:=fF Tryz.func101
theorem en102:En 102:=fF Tryz.func102
theorem en106:En 106:=fF Tryz.func106
theorem sH:En 107:=fF Tryz.func107
theorem en108:En 108:=fF Tryz.func108
theorem bAd:En 115:=fF Tryz.func115
theorem aCx:En 125:=fF Tryz.func125
theorem aJw:En 126:=fF Tryz.func126
theorem aKl:En 127:=fF Tryz.func127
theorem aZj:En 128:=fF Tryz.func128
theorem en129:En 129:=fF Tryz.func129
theorem aHq:En 130:=fF Tryz.func130
theorem aNp:En 131:=fF Tryz.func131
theorem aUj:En 132:=fF Tryz.func132
theorem en135:En 135:=fF Tryz.func135
theorem aHe:En 153:=fF Tryz.func153
theorem en156:En 156:=fF Tryz.func156
theorem en157:En 157:=fF Tryz.func157
theorem en158:En 158:=fF Tryz.func158
theorem en159:En 159:=fF Tryz.func159
theorem en162:En 162:=fF Tryz.func162
theorem en166:En 166:=fF Tryz.func166
theorem en191:En 191:=fF Tryz.func191
theorem en194:En 194:=fF Tryz.func194
theorem en195:En 195:=fF Tryz.func195
theorem en196:En 196:=fF Tryz.func196
theorem en197:En 197:=fF Tryz.func197
theorem en198:En 198:=fF Tryz.func198
theorem aNm:En 199:=fF Tryz.func199
theorem en200:En 200:=fF Tryz.func200
theorem en201:En 201:=fF Tryz.func201
theorem en202:En 202:=fF Tryz.func202
theorem aHl:En 203:=fF Tryz.func203
theorem en205:En 205:=fF Tryz.func205
theorem en210:En 210:=fF Tryz.func210
theorem en213:En 213:=fF Tryz.func213
theorem en222:En 222:=fF Tryz.func222
theorem en223:En 223:=fF Tryz.func223
theorem en225:En 225:=fF Tryz.func225
theorem en229:En 229:=fF Tryz.func229
theorem en245:En 245:=fF Tryz.func245
theorem aOe:En 248:=fF Tryz.func248
theorem aSs:En 249:=fF Tryz.func249
theorem en250:En 250:=fF Tryz.func250
theorem en252:En 252:=fF Tryz.func252
theorem aNu:En 263:=fF Tryz.func263
theorem en309:En 309:=fF Tryz.func309
theorem en310:En 310:=fF Tryz.func310
theorem mixed:Tryz.prog.follows .mixedOrders=true:=by kernel_rfl
theorem aTp {b c d:Int}{r:Bool}(a:Fac b c d=some r)(H:Hd O w w S []):
  Rt 153 [i6 b,i6 c,i6 d] (vb r) w O S []:=by
 refine CW 15 Tryz.func153 ?_;refine SR<|zB (vb false)<|RM<|bE a λf a g=>sJ H (rg [6,9]) [(6,vb f)] ?_ ?_;refine zF<|zA (i6 b)<|zA (i6 c)<|pV a λh a=>RJ a (λa=>?_) (λa=>?_);refine zA (i6 b)<|zA (i6 d)<|vX a λe a=>pt (vb e)<|zB (vb e) ?_;cases a;exact jn<|mt () (H.U []);refine zN<|zN<|zN<|pf (vb false)<|zB (vb false) ?_;cases a;exact jn<|mt () (H.U []);rintro _ ρ i H;have a:=g;cases a;exact zH<|p1z ⟨rfl,H.U []⟩
theorem Fgyw {a:Part}{c:Int}{d:Nat}{r:Bool}(b:Fgy a c=some r)(H:Hd O w w S [.blk d [i6 c] 3]):
  Rt 219 [.agg [i6 a.Frame,i6 a.Word,i6 a.Low,i6 a.Bits].toArray,gK d] (vb r) w O S [.blk d [i6 c] 3]:=by
 refine CW 9 Tryz.func219 ?_;refine SR<|xb (yJ (cs:=[i6 a.Frame,i6 a.Word,i6 a.Low,i6 a.Bits]) Z H) λf g H=>zB (vb false)<|RM<|SR<|Ld fC H 0 0 Z Z<|zI (aPm Z)<|Ld fC H 1 0 Z Z<|fQ b λh b=>pV b λe b=>zB (vb e)<|RM ?_;cases b;exact zH<|p1z ⟨Z,H.U [0]⟩
theorem Feew {f:List Part}{p1c0 r:Int}{c:Value}{d:Nat}(a:Fee f p1c0=some r)(H:Hd O w w S [.blk d [i6 p1c0] 3,nH c f]):
  Rt 261 [c,.func (.func 219) #[] #[gK d]] (i6 r) w O S [.blk d [i6 p1c0] 3]:=by
 refine CW 19 Tryz.func261 ?_;refine SR<|zB (i6 0)<|RM<|jk a H (rg [4,15]) (λx (y:Unit)=>[]) (λx y=>[]) [0] (λ_ a=>?_) ?_;refine SR<|zA c<|ln a (H.im 1 Z) aHu λt a=>zA (i6 0)<|RM<|zK<|lo a H (rg [4,2,8,11]) (λx (y:Unit)=>[(8,i6 x)]) (λx y=>[]) [0,1] () (H.U [0,1]) ?_;clear H a;rintro u b _ ρ v H a;have H:=un2 H;refine SR<|eF a λ_ a=>RM<|SQ<|WJ a (λa=>WZ<|SQ<|zK<|SR<|zA (i6 b)<|zB (i6 b)<|RM<|SR<|zA (.func (.func 219) #[] #[gK d])<|zA c<|zA (i6 b)<|bE a λe g a=>?_) λa=>?_;obtain⟨h,i,A,B,j,k,l,m,n⟩:=yZ (H.im 1 Z) g;obtain rfl:=uH k;have H:=H.fz (.at h (i+b.toNat*4) _) ⟨l,m,n⟩;refine ix aHu uA j g<|zI (yK (zZ (cs:=[i6 e.Frame,i6 e.Word,i6 e.Low,i6 e.Bits]) aFv Z uA Z (H.im 2 Z).2.2) Z)<|bE a λC o a=>yY Z Z (xK (fF Tryz.func219) Z Z) (Fgyw o (H.W [0] [])) ?_;rintro _ D ⟨rfl,p⟩;have H:=un3<|H.back [0] [] Z p;refine⟨_,Z,?_⟩;refine RM<|WJ a (λa=>SR<|zA (i6 b)<|zB (i6 b)<|RM ?_) λa=>?_;cases a;exact zH<|zL<|zG<|zG<|zL<|zG<|p1z ⟨Z,H.U [2]⟩;exact yI<|zU<|zJ<|KN<|zF<|fQ a λq a=>zA (i6 q)<|jn<|me a () (H.U [2,0]);exact yC<|zO<|zO<|zW<|zJ<|me a () (H.U [0]);rintro _ _ ρ _ H a;have H:=un1 H;refine SR<|zB (i6 (-1))<|RM ?_;cases a;exact zH<|p1z ⟨Z,H.U [0]⟩
theorem Fcsw {d:List Part}{p1c0:Int}{c:Value}{b:Nat}{r:Bool}(a:Fcs d p1c0=some r)(H:Hd O w w S [.blk b [i6 p1c0] 3,nH c d]):
  Rt 218 [c,.func (.func 219) #[] #[gK b]] (vb r) w O S [.blk b [i6 p1c0] 3]:=by
 refine CW 9 Tryz.func218 ?_;refine SR<|zB (vb false)<|RM<|SR<|zA c<|zA (.func (.func 219) #[] #[gK b])<|bE a λh e a=>cAz (fF Tryz.func261) (Feew e (H.W [0] [1])) λi f=>?_;have H:=un2<|H.back [0] [1] Z f;refine pV a λg a=>zB (vb g)<|RM ?_;cases a;exact zH<|p1z ⟨Z,H.U [1]⟩
theorem Fbvw {b:Param}{c d:Value}{r:(List Int)}(a:Fbv b=some r)(H:Hd O w w S [nH c b.Parts,cZ d b.Names]):
  Cl 156 [.agg [sb b.Name,i6 b.Kind,c,i6 b.First,i6 b.Every,i6 b.Times,i6 b.Step,d].toArray] w λe l=> ∃u5,e= .returned (u5)/\Hd O w l S [.own (Rp.int .i64) u5 3 r]:=by
 refine CW 24 Tryz.func156 ?_;refine SR<|xb (yJ (cs:=[sb b.Name,i6 b.Kind,c,i6 b.First,i6 b.Every,i6 b.Times,i6 b.Step,d]) Z H) λD _ H=>zB (.slice none 0 0)<|RM<|SR<|zB (.slice none 0 0)<|RM<|bE a λm a n=>jo H (rg [3,20]) (λ(g:Value)=>[(3,g)]) (λg=>[.own (Rp.int .i64) g 3 m]) [0] ?_ ?_;refine SR<|zI (aYq Z)<|Ld fC H 2 3 Z Z<|xb (zY zero3 H) λo _ H=>xu (yM H 3 Z sz3 Z (v:=i6 b.First) Z Z Z) λ_ H=>RM<|zK ?_;have H:=xO H (Rp.int .i64) 3;refine lo a H (rg [3,2,7,16]) (λx (y:Value×Nat)=>[(3,y.1),(4,.pointer (some ⟨y.2,0,none⟩))]) (λx y=>[.own (Rp.int .i64) y.1 3 x.1,.blk y.2 [i6 x.2] 3]) (rg [0,5]) (.slice none 0 0,o) (H.U [4,3,0,1,2]) ?_;clear H a;rintro _ ⟨_,j⟩ ⟨f,_⟩ ρ _ H a;have H:=un5 H;refine SQ<|SR<|Ld fC H 1 0 Z Z<|eF a λ_ a=>RM<|WJ a (λa=>WZ<|bE a λp a q=>jo H (rg [3,1,13,9]) (λ(g:Value)=>[(3,g)]) (λg=>[.own (Rp.int .i64) g 3 p]) [0,2,3,4,5] ?_ ?_) λa=>?_;refine zK<|SR<|zI (aAw Z)<|Ld aDl H 4 2 Z Z<|zI (yV Z)<|bE a λN s a=>cAz (fF Tryz.func218) (Fcsw s (H.W [1] [2])) λP t=>?_;have H:=un5<|H.back [1] [2] Z t;refine eX a λQ a=>RM<|WJ a (λa=>zF<|zA f<|Ld fC H 4 0 Z Z<|lE a λ_ u a=>?_) λa=>?_;subst u;refine xv (kl kInt [j] u50 el3 H) λT U H=>bE a λV z a=>xv (bC H (i:=0) Z u50 el3 Z Z (Sr.xB (H.im 5 Z)) z) λk X H=>zB k ?_;cases a;exact yU<|zU<|zJ<|mt k (H.U [0,4,1,2,3]);cases a;exact yI<|zU<|zJ<|mt f (H.U [0,4,1,2,3])
 rintro A ρ Y H;have H:=un5 H;have a:=q;exact SQ<|SR<|Ld fC H 1 0 Z Z<|RM<|zF<|xb (zY zero3 H) λB _ H=>xu (yM H 5 Z sz3 Z (v:=i6 j) Z Z Z) λ_ H=>RM<|zF<|Ld fC H 5 0 Z Z<|zI (aRm Z)<|Ld fC H 4 4 Z Z<|fQ a λC a=>xu (yM H 5 Z sz3 Z (v:=i6 C) Z Z Z) λ_ H=>jn<|me a (A,B) (H.U [0,5,2,3,4]);cases a;exact yC<|zO<|zO<|zW<|zJ<|mt f (H.U [0]);rintro h ρ _ H;have H:=un1 H;have a:=n;refine SR<|zA h<|zB h<|RM ?_;cases a;exact zH<|p1z ⟨h,Z,H.U [0]⟩
theorem Fhiw {a:Param}{b:Part}{d e:Int}{f g:Value}{r:fG}(c:Fhi a b d e=some r)(H:Hd O w w S [nH f a.Parts,cZ g a.Names]):
  Rt 220 [.agg [sb a.Name,i6 a.Kind,f,i6 a.First,i6 a.Every,i6 a.Times,i6 a.Step,g].toArray,.agg [i6 b.Frame,i6 b.Word,i6 b.Low,i6 b.Bits].toArray,i6 d,i6 e] (.agg [i6 r.Frame,i6 r.Word,i6 r.Low,i6 r.Bits].toArray) w O S []:=by
 refine CW 25 Tryz.func220 ?_;refine SR<|xb (yJ (cs:=[sb a.Name,i6 a.Kind,f,i6 a.First,i6 a.Every,i6 a.Times,i6 a.Step,g]) Z H) λj k H=>xb (yJ (cs:=[i6 b.Frame,i6 b.Word,i6 b.Low,i6 b.Bits]) Z H) λl m H=>xb (zY aIc H) λn o H=>RM<|SR<|zA (i6 d)<|zI (aPm Z)<|Ld fC H 3 0 Z Z<|fQ c λh c=>zI (aOt Z)<|Ld fC H 3 1 Z Z<|zA (i6 e)<|zI (aEq Z)<|Ld fC H 2 6 Z Z<|aDw c λ_ c=>fQ c λi c=>zI (aOs Z)<|Ld fC H 3 2 Z Z<|zI (aQy Z)<|Ld fC H 3 3 Z Z<|zI (yF (cs:=[i6 h,i6 i,i6 b.Low,i6 b.Bits]) (aMj _ _ _ _))<|xu (zQ (vs:=[i6 h,i6 i,i6 b.Low,i6 b.Bits]) H 4 Z aAy Z Z Z ⟨Z,Z,Z,Z,T1⟩ Z) λ_ H=>RM ?_;cases c;exact zH<|dV Z Z (zS aLj aAy Z (Hbc H 4 Z)) ⟨Z,H.U []⟩
theorem Fa4w {k:Int}{b:Param}{m n:Value}{r:(List Cell)}(a:Fa4 k b=some r)(H:Hd O w w S [nH m b.Parts,cZ n b.Names]):
  Cl 157 [i6 k,.agg [sb b.Name,i6 b.Kind,m,i6 b.First,i6 b.Every,i6 b.Times,i6 b.Step,n].toArray] w λe h=> ∃u5,e= .returned (u5)/\Hd O w h S [.own qU u5 137 r]:=by
 refine CW 54 Tryz.func157 ?_;refine SR<|xb (yJ (cs:=[sb b.Name,i6 b.Kind,m,i6 b.First,i6 b.Every,i6 b.Times,i6 b.Step,n]) Z H) λ_ _ H=>zB (.slice none 0 0)<|RM<|SR<|zB (.slice none 0 0)<|RM<|bE a λE a F=>jo H (rg [5,1,7,3,11,42]) (λ(g:Value)=>[(5,g)]) (λg=>[.own qU g 137 E]) [0] ?_ ?_;refine SR<|lb H 2 Z eU eQ<|bE a λ_ G a=>cAa en156 (Fbvw G (H.W [] [0,1])) λ_ a0 I=>?_;have H:=H.back1 [0,1] Z I;obtain⟨_,a2,J⟩:=Sr.len (Sr.xB (H.im 3 Z));refine RLi a (aA u50 J) λa3 a=>zA (i6 0)<|RM<|zK ?_;have H:=xO H qU 137;refine lo a H (rg [5,1,7,3,11,1,15,38]) (λx (y:Value)=>[(5,y),(15,i6 x.2)]) (λx y=>[.own qU y 137 x.1]) (rg [0,5]) (.slice none 0 0) (H.U [4,0,1,2,3]) ?_;clear H a;rintro a4 ⟨a5,_⟩ u ρ _ H a;have H:=un5 H;refine SR<|eF a λ_ a=>RM<|SQ<|WJ a (λa=>WZ<|bE a λK a L=>jo H (rg [5,1,7,3,11,1,17,35]) (λ(g:Value)=>[(5,g)]) (λg=>[.own qU g 137 K]) [0,2,3,4,5] ?_ ?_) λa=>?_;refine zK<|SR<|bE a λj z a=>?_;obtain⟨a9,_,M,N,P,Q⟩:=nU (H.im 4 Z) z;obtain rfl:M=[i6 j]:=P;refine ix u50 sz3 N z<|zI (yP fC Z (Cells.get Q (i:=0) Z))<|zB (i6 j)<|RM<|SR<|zI (aAi Z)<|Ld fC H 3 5 Z Z<|zA (i6 0)<|RM<|zK<|lo a H (rg [5,1,8,2,11,1,21,31]) (λx (y:Value)=>[(5,y),(21,i6 x.2)]) (λx y=>[.own qU y 137 x.1]) [0,2,3,4,5] u (H.U (rg [0,5])) ?_;clear H a;rintro _ ⟨_,o⟩ p ρ _ H a;have H:=un5 H;refine SR<|eF a λ_ a=>RM<|SQ<|WJ a (λa=>WZ<|bE a λR a T=>jo H (rg [5,1,8,2,11,1,23,28]) (λ(g:Value)=>[(5,g)]) (λg=>[.own qU g 137 R]) [0,2,3,4,5] ?_ ?_) λa=>?_
 refine zK<|SR<|zA (i6 o)<|zB (i6 o)<|RM<|SR<|zA (i6 k)<|zA p ?_;obtain⟨bf,_,U⟩:=Sr.len (Sr.xB (H.im 0 Z));refine RLi a (aA u131 U) λl a=>zA (i6 j)<|zI (yF (cs:=[i6 k,i6 l,i6 j,.slice none 0 0]) (aSx _ _ _))<|xb (zY aCh H) λA _ H=>xu (zQ (vs:=[i6 k,i6 l,i6 j,.slice none 0 0]) H 5 Z qQ Z Z Z ⟨Z,Z,Z,Z,T1⟩ Z) λ_ H=>RM<|bE a λs a V=>jo H (rg [11,1,29,18]) (λ(g:Value)=>[]) (λg=>[.blk A [i6 k,i6 l,i6 j,g] 137,.own kP g 139 s]) (rg [2,5,0,2]) ?_ ?_;refine SR<|zI (aAw Z)<|Ld aDl H 3 2 Z Z<|ln a (H.im 1 Z) aHu λ_ a=>zA (i6 0)<|RM<|zK ?_;have H:=xO H kP 139;refine lo a H (rg [11,1,32,15]) (λx (y:Value)=>[(32,i6 x.1)]) (λx y=>[.blk A [i6 k,i6 l,i6 j,y] 137,.own kP y 139 x.2]) (rg [2,5,0,2]) (.slice none 0 0) (H.U (rg [0,7])) ?_;clear H a;rintro _ ⟨X,_⟩ Y ρ _ H a;have H:=un7 H;refine SR<|eF a λ_ a=>RM<|SQ<|WJ a (λa=>WZ<|SQ<|zK<|SR<|bE a λf B a=>?_) λa=>?_;obtain⟨aa,ab,_,_,ac,ad,ae,af,ag⟩:=yZ (H.im 1 Z) B;obtain rfl:=uH ad;have H:=H.fz (.at aa (ab+X.toNat*4) _) ⟨ae,af,ag⟩;refine ix aHu uA ac B<|zI (yK (zZ (cs:=[i6 f.Frame,i6 f.Word,i6 f.Low,i6 f.Bits]) aFv Z uA Z (H.im 7 Z).2.2) Z)<|xb (zY aIs H) λ_ _ H=>xu (zQ (vs:=[i6 f.Frame,i6 f.Word,i6 f.Low,i6 f.Bits]) H 8 Z uA Z Z Z ⟨Z,Z,Z,Z,T1⟩ Z) λ_ H=>RM ?_;have ah:=H;have H:=H.rb;have bu:=H;refine xN H (rg [0,11]) (kz [0,1,1,1,0,0,1,2,3,0,3]) mixed ?_;refine XQ (aCf Z)<|XR aLp H 5 3 Z Z<|MxM.xJ oS Z Z Z (λh d=>yK (zZ (cs:=[sb b.Name,i6 b.Kind,m,i6 b.First,i6 b.Every,i6 b.Times,i6 b.Step,n]) eU Z eQ Z (Blk.cells ((H.Z d).V (i:=3) Z))) Z)<|MxM.xJ oS Z Z Z (λh d=>yK (zZ (cs:=[i6 f.Frame,i6 f.Word,i6 f.Low,i6 f.Bits]) aFv Z uA Z (Blk.cells ((H.Z d).V (i:=8) Z))) Z) ?_
 refine XM (i6 j)<|XM (i6 o) ?_;have ai:=H;refine bE a λc aj a=>MxM.XL_call oS Z Z Z (v:= .agg [i6 c.Frame,i6 c.Word,i6 c.Low,i6 c.Bits].toArray) (λh d=>xE (fF Tryz.func220) Z) (λh d=>by have q:=bY (Fhiw aj ((H.Z d).W [] [1,2]));exact q) ?_;have H:=ai;refine lE a λ_ ak a=>?_;subst ak;refine MxM.XL_exN oS Z Z Z (λh d=>aMb (vJ kP c [i6 c.Frame,i6 c.Word,i6 c.Low,i6 c.Bits] aPc el139 (aUz (x:=c)) (H.Z d)) (aNo (cs:=[i6 c.Frame,i6 c.Word,i6 c.Low,i6 c.Bits]) aPc el139 (by decide) (by decide) (mF (vs:=[.agg [i6 c.Frame,i6 c.Word,i6 c.Low,i6 c.Bits].toArray]) (by decide) Z Z ⟨Z,T1⟩ Z))) ?_;rintro h _ _ d H;refine bE a λ_ al a=>Xe (λh d=>bC (H.Z d) (i:=6) Z aPc el139 Z Z (Sr.xB ((H.Z d).V (i:=9) Z)) al) λh C _ d H=>XQ (aCf Z)<|Xu (λh d=>yM (H.Z d) 5 Z sz135 Z (v:=C) Z (xW ((H.Z d).V (i:=6) Z)) Z) λh _ d H=>nJ ah H λ_ H=>?_;refine zU (zJ (KN ?_));exact zF<|fQ a λam a=>zA (i6 am)<|jn<|me a C (H.U (rg [0,7]));cases a;exact yC<|zO<|zO<|zW<|zJ<|mt Y (H.U (rg [0,7]));rintro an ρ _ H;have H:=un7 H;have a:=V;refine zF<|zA p<|lb H 5 Z aDn qQ ?_;have H:=H.freeze (i:=6) Z;refine lE a λ_ ao a=>?_;subst ao;refine xv (vJ qU (Cell.mk k l j s) [i6 k,i6 l,i6 j,an] u131 el137 (rCell_mk (x:=Cell.mk k l j s) (H.im 6 Z)) H) λ_ _ H=>bE a λ_ ap a=>xv (bC H (i:=0) Z u131 el137 Z Z (Sr.xB (H.im 7 Z)) ap) λD _ H=>zB D ?_;cases a;exact yU<|zU<|zJ<|mt D (H.U (rg [0,5]))
 rintro aq ρ _ H;have H:=un5 H;have a:=T;exact zF<|fQ a λar a=>zA (i6 ar)<|jn<|me a aq (H.U (rg [0,5]));cases a;exact yC<|zO<|zO<|zW<|zU<|zJ<|mt p (H.U (rg [0,5]));rintro au ρ _ H;have H:=un5 H;have a:=L;exact zF<|fQ a λav a=>zA (i6 av)<|jn<|me a au (H.U (rg [0,5]));cases a;exact yC<|zO<|zO<|zW<|zJ<|mt u (H.U [0]);rintro t ρ _ H;have H:=un1 H;have a:=F;refine SR<|zA t<|zB t<|RM ?_;cases a;exact zH<|p1z ⟨t,Z,H.U [0]⟩
theorem Fczw {b:fG}{r:(List fA)}(a:Fcz b=some r)(H:Hd O w w S []):
  Cl 221 [.agg [i6 b.Frame,i6 b.Word,i6 b.Low,i6 b.Bits].toArray] w λe l=> ∃h,e= .returned (h)/\Hd O w l S [.own nR h 282 r]:=by
 refine CW 24 Tryz.func221 ?_;refine SR<|xb (yJ (cs:=[i6 b.Frame,i6 b.Word,i6 b.Low,i6 b.Bits]) Z H) λ_ t H=>zB (.slice none 0 0)<|RM<|SR<|zB (.slice none 0 0)<|RM<|bE a λm a n=>jo H (rg [3,20]) (λ(g:Value)=>[(3,g)]) (λg=>[.own nR g 282 m]) [0] ?_ ?_;refine SR<|zI (aPh Z)<|Ld fC H 0 3 Z Z<|zA (i6 0)<|RM<|zK ?_;have H:=xO H nR 282;refine lo a H (rg [3,2,7,16]) (λx (y:Value)=>[(3,y),(7,i6 x.2)]) (λx y=>[.own nR y 282 x.1]) [0,1] (.slice none 0 0) (H.U [1,0]) ?_;clear H a;rintro u ⟨v,d⟩ j ρ _ H a;have H:=un2 H;refine SR<|eF a λA a=>RM<|SQ<|WJ a (λa=>WZ<|SQ<|zK<|SR<|zA (i6 d)<|zB (i6 d)<|RM<|zF<|zA j<|zI (aIj Z)<|Ld fC H 1 0 Z Z<|zI (aIg Z)<|Ld fC H 1 1 Z Z<|zI (bAn Z)<|Ld fC H 1 2 Z Z<|zA (i6 d)<|fQ a λc a=>zI (yF (cs:=[i6 b.Frame,i6 b.Word,i6 c]) (aSc _ _ _))<|lE a λB o a=>?_) λa=>?_;subst o;refine xv (vJ nR (fA.mk b.Frame b.Word c) [i6 b.Frame,i6 b.Word,i6 c] u279 el282 (aMk (x:=fA.mk b.Frame b.Word c)) H) λC D H=>bE a λ_ p a=>xv (bC H (i:=0) Z u279 el282 Z Z (Sr.xB (H.im 2 Z)) p) λk _ H=>zB k<|(yU (zU (zJ (KN ?_))));exact zF<|fQ a λq a=>zA (i6 q)<|jn<|me a k (H.U [0,1]);cases a;exact yC<|zO<|zO<|zW<|zJ<|mt j (H.U [0]);rintro f ρ _ H;have H:=un1 H;have a:=n;refine SR<|zA f<|zB f<|RM ?_;cases a;exact zH<|p1z ⟨f,Z,H.U [0]⟩
theorem Fbiw {j:List (fA×Int)}{f:Int}{l:List fG}{b:Nat}{h:Value}{r:Bool×(List (fA×Int))}(a:Fbi j f l=some r)(H:Hd O w w S [.mp b (eP dK (λv=>Value.int .i64 v) j),f1 kP h l]):
  Rt 158 [.map (some b),i6 f,h] (vb r.1) w O S [.mp b (eP dK (λv=>Value.int .i64 v) r.2)]:=by
 refine CW 38 Tryz.func158 ?_;refine SR<|zB (vb false)<|RM<|jk a H (rg [6,1,8,1,10,28]) (λx (y:Unit)=>[]) (λx y=>[.mp b (eP dK (λv=>Value.int .i64 v) x)]) [0] (λT a=>?_) ?_;refine SR<|zA h<|ln a (H.im 1 Z) aPc λU a=>zA (i6 0)<|RM<|zK<|lo a H (rg [6,1,8,1,10,3,15,23]) (λx (y:Unit)=>[(15,i6 x.1)]) (λx y=>[.mp b (eP dK (λv=>Value.int .i64 v) x.2)]) [0,2] () (H.U [0,1]) ?_;clear H a;rintro V ⟨q,X⟩ _ ρ Y H a;have H:=un2 H;refine SR<|eF a λ_ a=>RM<|SQ<|WJ a (λa=>WZ<|jk a H (rg [6,1,8,1,10,3,17,20]) (λx (y:Unit)=>[]) (λx y=>[.mp b (eP dK (λv=>Value.int .i64 v) x)]) [0,2] (λ_ a=>?_) ?_) λa=>?_;refine zK<|SR<|bE a λc n a=>?_;obtain⟨s,t,_,_,u,z,A,B,C⟩:=yZ (H.im 1 Z) n;obtain rfl:=aAt z;have H:=H.fz (.at s (t+q.toNat*4) _) ⟨A,B,C⟩;refine ix aPc aAy u n<|zI (yK (zZ (cs:=[i6 c.Frame,i6 c.Word,i6 c.Low,i6 c.Bits]) aLj Z aAy Z (H.im 2 Z).2.2) Z)<|xb (zY aIc H) λ_ af H=>xu (zQ (vs:=[i6 c.Frame,i6 c.Word,i6 c.Low,i6 c.Bits]) H 3 Z aAy Z Z Z ⟨Z,Z,Z,Z,T1⟩ Z) λ_ H=>RM<|SR<|lb H 3 Z aLj aAy<|bE a λ_ D a=>cAa (fF Tryz.func221) (Fczw D (H.W [] [])) λ_ _ E=>?_;have H:=H.back1 [] Z E;obtain⟨_,_,F⟩:=Sr.len (Sr.xB (H.im 4 Z));refine RLi a (aA u279 F) λ_ a=>zA (i6 0)<|RM<|zK<|lo a H (rg [6,1,10,3,22,15]) (λx (y:Unit)=>[(22,i6 x.1)]) (λx y=>[.mp b (eP dK (λv=>Value.int .i64 v) x.2)]) [0,2,5] () (H.U [0,1,4]) ?_;clear H a;rintro _ ⟨_,o⟩ _ ρ _ H a
 have H:=un3 H;refine SR<|eF a λ_ a=>RM<|SQ<|WJ a (λa=>WZ<|SQ<|zK<|SR<|bE a λd p a=>?_) λa=>?_;obtain⟨_,_,_,I,J,K⟩:=nU (H.im 2 Z) p;obtain rfl:=aHv J;refine ix u279 aNv I p<|zI (yK (zZ (cs:=[i6 d.frame,i6 d.word,i6 d.bit]) aOo Z aNv Z K) Z)<|xb (zY zero282 H) λ_ _ H=>xu (zQ (vs:=[i6 d.frame,i6 d.word,i6 d.bit]) H 3 Z aNv Z Z Z ⟨Z,Z,Z,T1⟩ Z) λL H=>RM<|SQ<|SR<|zA (.map (some b))<|lb H 3 Z aOo aNv<|lE a λi M a=>lE a λg N a=>zI (aTm (e:=dK) (G:=(λv=>Value.int .i64 v)) (m:=o) (k:=d) (zv:=0) wk282 (H.im 0 Z) u231 Z Z (Tryz.zeroValue3 L) M N)<|zA (.tuple #[i6 i,vb g])<|zI (zV (v:=i6 i) Z Z)<|zI (zV (v:=vb g) Z Z)<|zB (i6 i)<|zB (vb g)<|RM<|SQ<|zF<|zA (vb g)<|RM<|WJ a (λa=>SR<|zB (vb false)<|RM ?_) λa=>?_;cases a;exact zH<|zG<|zL<|zG<|zG<|zL<|zL<|zG<|zG<|zL<|zG<|p1z ⟨Z,H.U [0]⟩;exact WZ<|zF<|zA (.map (some b))<|lb H 3 Z aOo aNv<|zA (i6 f)<|lE a λ_ P a=>xu (aAo (e:=dK) (G:=(λv=>Value.int .i64 v)) (m:=o) (k:=d) (v:=f) wk282 H 0 Z u231 Z Z Z P) λ_ H=>yU<|zU<|zJ<|KN<|zF<|fQ a λQ a=>zA (i6 Q)<|jn<|me a () (H.U [0,1,2]);exact yC<|zO<|zO<|zW<|zU<|zJ<|me a () (H.U [0,1]);rintro a0 _ ρ _ H a;have H:=un2 H;exact zF<|fQ a λR a=>zA (i6 R)<|jn<|me a () (H.U [0,1]);exact yC<|zO<|zO<|zW<|zJ<|me a () (H.U [0]);rintro a2 _ ρ a3 H a;have H:=un1 H;refine SR<|zB (vb true)<|RM ?_;cases a;exact zH<|p1z ⟨Z,H.U [0]⟩
theorem Fgkw {b:Int}{r:Bool}(a:Fgk b=some r)(H:Hd O w w S []):
  Rt 228 [.int .i32 b] (vb r) w O S []:=by
 refine CW 22 Tryz.func228 ?_;refine SR<|zB (vb false)<|RM<|bE a λd a e=>sJ H (rg [2,20]) [(2,vb d)] ?_ ?_;refine zF<|zA (.int .i32 b)<|pV a λm a=>bE a λf a g=>xC 4 [5,6,7,8] [(8,vb f)] (λwl=>Hd O w wl S []) ?_ ?_;refine RJ a (λa=>zA (.int .i32 b)<|vX a λh a=>pt (vb h) ?_) λa=>?_;cases a;exact jn<|meet ⟨(yB Z yG),H.U []⟩;refine zN<|zN<|pf (vb false) ?_;cases a;exact jn<|meet ⟨(yB Z yG),H.U []⟩;rintro ρ n H;have a:=g;refine bE a λi a j=>xC 8 [9,10,11,12,13,14,15,16] [(16,vb i)] (λwl=>Hd O w wl S []) ?_ ?_;refine RJ a (λa=>zN<|zN<|zN<|zN<|zN<|zN<|pt (vb true) ?_) λa=>?_;cases a;exact jn<|meet ⟨(yB Z yG),H.U []⟩;refine zA (.int .i32 b)<|pV a λo a=>RJ a (λa=>zA (.int .i32 b)<|vX a λc a=>pt (vb c)<|pf (vb c) ?_) λa=>?_;cases a;exact jn<|meet ⟨(yB Z yG),H.U []⟩;refine zN<|zN<|pf (vb false)<|pf (vb false) ?_;cases a;exact jn<|meet ⟨(yB Z yG),H.U []⟩;rintro ρ _ H;have a:=j;refine RJ a (λa=>zN<|zN<|pt (vb true)<|zI (aBh (p:=true) Z)<|zB (vb false) ?_) λa=>?_;cases a;exact jn<|mt () (H.U []);refine zA (.int .i32 b)<|dE a λk a=>pf (vb k)<|eX a λl a=>zB (vb l) ?_;cases a;exact jn<|mt () (H.U []);rintro _ ρ _ H;have a:=e;cases a;exact zH<|p1z ⟨Z,H.U []⟩
theorem bad_p (x:Nat):Fgk (x:Int)=some (!aP x):=by
 have a:decide (97<=(x:Int))=decide (97<=x):=decide_eq_decide.2 (by omega);have b:decide ((x:Int)<=122)=decide (x<=122):=decide_eq_decide.2 (by omega);have c:decide (48<=(x:Int))=decide (48<=x):=decide_eq_decide.2 (by omega);have d:decide ((x:Int)<=57)=decide (x<=57):=decide_eq_decide.2 (by omega);have e:decide ((x:Int)=45)=decide (x=45):=decide_eq_decide.2 (by omega);unfold Fgk aP;rw [a];simp only [b,c,d,e];generalize decide (97<=x)=f;generalize decide (x<=122)=g;generalize decide (48<=x)=h;generalize decide (x<=57)=i;generalize decide (x=45)=j;cases f<;>cases g<;>cases h<;>cases i<;>cases j<;>rfl
theorem Flj {a:Str}{r:Bool}(b:Fgd a=some r)(H:Hd O w w S []):
  Rt 227 [sb a,.func (.func 228) #[] #[]] (vb r) w O S []:=by
 have hr:=oI b;subst hr;have hp:Go.Proofs.PredGrows Tryz.prog 228 #[] (λx=> !aP x) w:=λW x hx _=>by
  exact(Fgkw (bad_p x) (Hd.fresh0 W)).mono λe c h=>⟨h.1,h.2.only.below⟩
 refine(Go.Proofs.Any.strings_ContainsFunc_grows aXw 228 #[] (Go.Proofs.enters_of Tryz.func228 (by kernel_rfl) rfl) (λx=> !aP x) (bs a) w hp).mono λe c h=>⟨?_,H.step (Only.of_below h.2)⟩
 rw [h.1]
 congr 2
 unfold Go.Lib.idxFunc;rw [aZq (λx hx=>?_) a _ 0 (by simp [bs,ByteArray.size]),List.drop_zero];unfold aP;simp;omega
theorem Fbjw {b:Str}{r:Bool}(a:Fbj b=some r)(H:Hd O w w S []):
  Rt 166 [sb b] (vb r) w O S []:=by
 refine CW 24 Tryz.func166 ?_;refine SR<|zB (vb false)<|RM<|SQ<|bE a λc a d=>sJ H (rg [3,18]) [(20,vb c)] ?_ ?_;refine zF<|zA (sb b)<|RLi a (aW (s1:=b) u9 Z) λ_ a=>eF a λ_ a=>bE a λe a f=>xC 5 [6,7,8,9,10] [(10,vb e)] (λwl=>Hd O w wl S []) ?_ ?_;refine RJ a (λa=>zN<|zN<|zN<|pt (vb true) ?_) λa=>?_;cases a;exact jn<|meet ⟨(yB Z yG),H.U []⟩;refine zA (sb b)<|RLi a (aW (s1:=b) u9 Z) λt a=>jF a λg a=>pf (vb g) ?_;cases a;exact jn<|meet ⟨(yB Z yG),H.U []⟩;rintro ρ u H;have a:=f;refine bE a λh a i=>xC 5 [11,12,13,14,15] [(15,vb h)] (λwl=>Hd O w wl S []) ?_ ?_;refine RJ a (λa=>zN<|zN<|zN<|pt (vb true) ?_) λa=>?_;cases a;exact jn<|meet ⟨(yB Z yG),H.U []⟩;refine zA (sb b)<|bE a λv j a=>zI (rH (s1:=b) (q:=0) u9 Z Z j)<|eF a λk a=>pf (vb k) ?_;cases a;exact jn<|meet ⟨(yB Z yG),H.U []⟩;rintro ρ x H;have a:=i;refine RJ a (λa=>zN<|zN<|zN<|pt (vb true) ?_) λa=>?_;cases a;exact jn<|mt () (H.U []);refine zA (sb b)<|bE a λy l a=>zI (rH (s1:=b) (q:=0) u9 Z Z l)<|jF a λm a=>pf (vb m) ?_;cases a;exact jn<|mt () (H.U []);rintro _ ρ _ H;have a:=d;refine WJ a (λa=>SR<|zB (vb false)<|RM ?_) λa=>?_;cases a;exact zH<|zG<|p1z ⟨Z,H.U []⟩;refine WZ<|SR<|zA (sb b)<|bE a λA n a=>RC (fF Tryz.func227) (Flj n (H.W [] [])) H λB H=>eX a λo a=>zB (vb o)<|RM ?_;cases a;exact zH<|p1z ⟨Z,H.U []⟩
theorem Fatw {b:Param}{d e:Value}{r:Int}(a:Fat b=some r)(H:Hd O w w S [nH d b.Parts,cZ e b.Names]):
  Rt 229 [.agg [sb b.Name,i6 b.Kind,d,i6 b.First,i6 b.Every,i6 b.Times,i6 b.Step,e].toArray] (i6 r) w O S []:=by
 refine CW 19 Tryz.func229 ?_;refine SR<|xb (yJ (cs:=[sb b.Name,i6 b.Kind,d,i6 b.First,i6 b.Every,i6 b.Times,i6 b.Step,e]) Z H) λv _ H=>zB (i6 0)<|RM<|SR<|zB (i6 0)<|RM<|bE a λf a i=>jo H (rg [3,1,5,13]) (λ(g:Unit)=>[(3,i6 f)]) (λg=>[]) [] ?_ ?_;refine SR<|zI (aAw Z)<|Ld aDl H 2 2 Z Z<|ln a (H.im 0 Z) aHu λA a=>zA (i6 0)<|RM<|zK<|lo a H (rg [3,1,5,1,9,9]) (λx (y:Unit)=>[(3,i6 x.1),(9,i6 x.2)]) (λx y=>[]) [0] () (H.U [0]) ?_;clear H a;rintro B ⟨j,k⟩ _ ρ C H a;have H:=un1 H;refine SR<|eF a λD a=>RM<|SQ<|WJ a (λa=>WZ<|SQ<|zK<|SR<|bE a λc h a=>?_) λa=>?_;obtain⟨l,m,_,_,n,o,p,q,s⟩:=yZ (H.im 0 Z) h;obtain rfl:=uH o;have H:=H.fz (.at l (m+k.toNat*4) _) ⟨p,q,s⟩;refine ix aHu uA n h<|zI (yK (zZ (cs:=[i6 c.Frame,i6 c.Word,i6 c.Low,i6 c.Bits]) aFv Z uA Z (H.im 1 Z).2.2) Z)<|xb (zY aIs H) λ_ _ H=>xu (zQ (vs:=[i6 c.Frame,i6 c.Word,i6 c.Low,i6 c.Bits]) H 2 Z uA Z Z Z ⟨Z,Z,Z,Z,T1⟩ Z) λ_ H=>RM<|zF<|zA (i6 j)<|zI (aQy Z)<|Ld fC H 2 3 Z Z<|fQ a λt a=>zB (i6 t)<|(yU (zU (zJ (KN ?_))));exact zF<|fQ a λu a=>zA (i6 u)<|jn<|me a () (H.U [0]);cases a;exact yC<|zO<|zO<|zW<|zJ<|mt () (H.U []);rintro _ ρ _ H;have a:=i;refine SR<|zA (i6 f)<|zB (i6 f)<|RM ?_;cases a;exact zH<|p1z ⟨Z,H.U []⟩
theorem Ffmw {e:List Int}{d r:Int}{c:Value}(a:Ffm e d=some r)(H:Hd O w w S [aNi c e]):
  Rt 269 [c,i6 d] (i6 r) w O S []:=by
 refine CW 19 Tryz.func269 ?_;refine SR<|zB (i6 0)<|RM<|jk a H (rg [4,15]) (λx (y:Unit)=>[]) (λx y=>[]) [] (λi a=>?_) ?_;refine SR<|zA c<|ln a (H.im 0 Z) u50 λj a=>zA (i6 0)<|RM<|zK<|lo a H (rg [4,2,8,11]) (λx (y:Unit)=>[(8,i6 x)]) (λx y=>[]) [0] () (H.U [0]) ?_;clear H a;rintro k b _ ρ l H a;have H:=un1 H;refine SR<|eF a λm a=>RM<|SQ<|WJ a (λa=>WZ<|SQ<|zK<|SR<|zA (i6 b)<|zB (i6 b)<|RM<|SR<|zA (i6 d)<|zA c<|zA (i6 b)<|bE a λf g a=>rea H (H.im 0 Z) (i6 f) g u50 sz3 fC λn o H=>dE a λ_ a=>RM<|WJ a (λa=>SR<|zA (i6 b)<|zB (i6 b)<|RM ?_) λa=>?_) λa=>?_;cases a;exact zH<|zL<|zG<|zG<|zL<|zG<|p1z ⟨Z,H.U []⟩;exact yI<|zU<|zJ<|KN<|zF<|fQ a λh a=>zA (i6 h)<|jn<|me a () (H.U [0]);exact yC<|zO<|zO<|zW<|zJ<|me a () (H.U []);rintro _ _ ρ _ H a;refine SR<|zB (i6 (-1))<|RM ?_;cases a;exact zH<|p1z ⟨Z,H.U []⟩
theorem Fd8w {d:List Int}{b:Int}{c:Value}{r:Bool}(a:Fd8 d b=some r)(H:Hd O w w S [aNi c d]):
  Rt 230 [c,i6 b] (vb r) w O S []:=by
 refine CW 9 Tryz.func230 ?_;refine SR<|zB (vb false)<|RM<|SR<|zA c<|zA (i6 b)<|bE a λg e a=>RC (fF Tryz.func269) (Ffmw e (H.W [] [0])) H λh H=>pV a λf a=>zB (vb f)<|RM ?_;cases a;exact zH<|p1z ⟨Z,H.U []⟩
theorem Fdow {b:Param}{d e:Value}{r:Int}(a:Fdo b=some r)(H:Hd O w w S [nH d b.Parts,cZ e b.Names]):
  Rt 167 [.agg [sb b.Name,i6 b.Kind,d,i6 b.First,i6 b.Every,i6 b.Times,i6 b.Step,e].toArray] (i6 r) w O S []:=by
 refine CW 112 Tryz.func167 ?_;refine SR<|xb (yJ (cs:=[sb b.Name,i6 b.Kind,d,i6 b.First,i6 b.Every,i6 b.Times,i6 b.Step,e]) Z H) λh _ H=>zB (i6 0)<|RM<|SQ<|zK<|SR<|zI (aAw Z)<|Ld aDl H 2 2 Z Z<|ln a (H.im 0 Z) aHu λ_ a=>dE a λu a=>zB (vb u)<|RM<|WJ a (λa=>SR<|zB (i6 13)<|RM ?_) λa=>?_;cases a;exact zH<|zL<|zG<|p1z ⟨Z,H.U []⟩;refine SR<|zI (aAw Z)<|Ld aDl H 2 2 Z Z<|ln a (H.im 0 Z) aHu λ_ a=>jF a λv a=>zB (vb v)<|RM<|WJ a (λa=>SR<|zB (i6 3)<|RM ?_) λa=>?_;cases a;exact zH<|zL<|zG<|p1z ⟨Z,H.U []⟩;refine yI<|zU<|zJ<|KN<|jk a H (rg [2,1,4,1,18,33]) (λx (y:Unit)=>[]) (λx y=>[]) [0,1,2] (λ_ a=>?_) ?_;refine SR<|zI (aAw Z)<|Ld aDl H 2 2 Z Z<|ln a (H.im 0 Z) aHu λa9 a=>zA (i6 0)<|RM<|zK<|lo a H (rg [2,1,4,1,21,30]) (λx (y:Unit)=>[(21,i6 x)]) (λx y=>[]) [0,1,2] () (H.U [0,1,2]) ?_;clear H a;rintro _ j _ ρ _ H a;have H:=un3 H;refine SR<|eF a λ_ a=>RM<|SQ<|WJ a (λa=>WZ<|SQ<|zK<|SR<|bE a λc n a=>?_) λa=>?_;obtain⟨k,l,_,_,z,A,B,C,D⟩:=yZ (H.im 0 Z) n;obtain rfl:=uH A;have H:=H.fz (.at k (l+j.toNat*4) _) ⟨B,C,D⟩;refine ix aHu uA z n<|zI (yK (zZ (cs:=[i6 c.Frame,i6 c.Word,i6 c.Low,i6 c.Bits]) aFv Z uA Z (H.im 3 Z).2.2) Z)<|xb (zY aIs H) λo bf H=>xu (zQ (vs:=[i6 c.Frame,i6 c.Word,i6 c.Low,i6 c.Bits]) H 4 Z uA Z Z Z ⟨Z,Z,Z,Z,T1⟩ Z) λ_ H=>RM<|bE a λE a F=>jo H (rg [25,25]) (λ(g:Unit)=>[(49,vb E)]) (λg=>[]) [0,1,2] ?_ ?_
 refine zF<|zI (aPm Z)<|Ld fC H 4 0 Z Z<|bE a λ_ G a=>RC aHe (aTp G (H.W [] [])) H λ_ H=>eX a λ_ a=>bE a λI a J=>xC 6 [29,30,31,32,33,34] [(34,vb I)] (λwl=>Hd O w wl S [nH d b.Parts,cZ e b.Names,.blk h [sb b.Name,i6 b.Kind,d,i6 b.First,i6 b.Every,i6 b.Times,i6 b.Step,e] 128,.fz (.at k (l+j.toNat*4) [i6 c.Frame,i6 c.Word,i6 c.Low,i6 c.Bits]),.blk o [i6 c.Frame,i6 c.Word,i6 c.Low,i6 c.Bits] 251]) ?_ ?_;refine RJ a (λa=>zN<|zN<|zN<|zN<|pt (vb true) ?_) λa=>?_;cases a;exact jn<|meet ⟨(yB Z yG),H.U (rg [0,5])⟩;refine zI (aOt Z)<|Ld fC H 4 1 Z Z<|bE a λ_ K a=>RC aHe (aTp K (H.W [] [])) H λ_ H=>eX a λL a=>pf (vb L) ?_;cases a;exact jn<|meet ⟨(yB Z yG),H.U (rg [0,5])⟩;rintro ρ _ H;have a:=J;refine bE a λM a N=>xC 6 [35,36,37,38,39,40] [(40,vb M)] (λwl=>Hd O w wl S [nH d b.Parts,cZ e b.Names,.blk h [sb b.Name,i6 b.Kind,d,i6 b.First,i6 b.Every,i6 b.Times,i6 b.Step,e] 128,.fz (.at k (l+j.toNat*4) [i6 c.Frame,i6 c.Word,i6 c.Low,i6 c.Bits]),.blk o [i6 c.Frame,i6 c.Word,i6 c.Low,i6 c.Bits] 251]) ?_ ?_;refine RJ a (λa=>zN<|zN<|zN<|zN<|pt (vb true) ?_) λa=>?_;cases a;exact jn<|meet ⟨(yB Z yG),H.U (rg [0,5])⟩;refine zI (aOs Z)<|Ld fC H 4 2 Z Z<|bE a λ_ P a=>RC aHe (aTp P (H.W [] [])) H λ_ H=>eX a λQ a=>pf (vb Q) ?_;cases a;exact jn<|meet ⟨(yB Z yG),H.U (rg [0,5])⟩;rintro ρ _ H;have a:=N;refine RJ a (λa=>zN<|zN<|zN<|zN<|zN<|zN<|zN<|pt (vb true) ?_) λa=>?_
 cases a;exact jn<|mt () (H.U [0,1,2]);refine zI (aQy Z)<|Ld fC H 4 3 Z Z<|zI (aOs Z)<|Ld fC H 4 2 Z Z<|aBr a λ_ a=>bE a λ_ R a=>RC aHe (aTp R (H.W [] [])) H λ_ H=>eX a λT a=>pf (vb T) ?_;cases a;exact jn<|mt () (H.U [0,1,2]);rintro _ ρ _ H;have H:=un3 H;have a:=F;refine WJ a (λa=>SR<|zB (i6 9)<|RM ?_) λa=>?_;cases a;exact zH<|zL<|zG<|zG<|zL<|zG<|p1z ⟨Z,H.U []⟩;exact yI<|zU<|zJ<|KN<|zF<|fQ a λU a=>zA (i6 U)<|jn<|me a () (H.U [0,1,2]);exact yC<|zO<|zO<|zW<|zJ<|me a () (H.U [0,1,2]);rintro _ _ ρ _ H a;have H:=un3 H;refine SQ<|SR<|lb H 2 Z eU eQ<|bE a λ_ V a=>RC en229 (Fatw V (H.W [] [0,1])) H λ_ H=>jF a λ_ a=>RM<|WJ a (λa=>SR<|zB (i6 3)<|RM ?_) λa=>?_;cases a;exact zH<|zG<|p1z ⟨Z,H.U []⟩;refine WZ<|SR<|lE a λ_ X a=>?_;subst X;refine xv (kl kInt [1,2,4,8,16] u50 el3 H) λm _ H=>zI (aRm Z)<|Ld fC H 2 4 Z Z ?_;have Y:=H;have H:=H.freeze (i:=3) Z;refine bE a λs aa a=>RC (fF Tryz.func230) (Fd8w aa (H.W [] [3])) Y λ_ H=>zB (vb s)<|RM<|SQ<|bE a λab a ac=>jo H (rg [58,31]) (λ(g:Unit)=>[(88,vb ab)]) (λg=>[]) [0,1,2] ?_ ?_;refine zF<|zA (vb s)<|eX a λ_ a=>bE a λad a ae=>xC 9 [60,61,62,63,64,65,66,67,68] [(68,vb ad)] (λwl=>Hd O w wl S [nH d b.Parts,cZ e b.Names,.blk h [sb b.Name,i6 b.Kind,d,i6 b.First,i6 b.Every,i6 b.Times,i6 b.Step,e] 128,.own (Rp.int .i64) m 3 ([1,2,4,8,16]:List Int)]) ?_ ?_;refine RJ a ?_ ?_<;>intro a
 refine zN<|zN<|zN<|zN<|zN<|zN<|zN<|pt (vb true) ?_;cases a;exact jn<|meet ⟨(yB Z yG),H.U [0,1,2,3]⟩;refine zI (aYq Z)<|Ld fC H 2 3 Z Z<|zI (aRm Z)<|Ld fC H 2 4 Z Z<|aBr a λ_ a=>bE a λ_ af a=>RC aHe (aTp af (H.W [] [])) H λ_ H=>eX a λag a=>pf (vb ag) ?_;cases a;exact jn<|meet ⟨(yB Z yG),H.U [0,1,2,3]⟩;rintro ρ _ H;have a:=ae;refine bE a λah a ai=>xC 6 [69,70,71,72,73,74] [(74,vb ah)] (λwl=>Hd O w wl S [nH d b.Parts,cZ e b.Names,.blk h [sb b.Name,i6 b.Kind,d,i6 b.First,i6 b.Every,i6 b.Times,i6 b.Step,e] 128,.own (Rp.int .i64) m 3 ([1,2,4,8,16]:List Int)]) ?_ ?_;refine RJ a (λa=>zN<|zN<|zN<|zN<|pt (vb true) ?_) λa=>?_;cases a;exact jn<|meet ⟨(yB Z yG),H.U [0,1,2,3]⟩;refine zI (aAi Z)<|Ld fC H 2 5 Z Z<|bE a λ_ aj a=>RC aHe (aTp aj (H.W [] [])) H λ_ H=>eX a λak a=>pf (vb ak) ?_;cases a;exact jn<|meet ⟨(yB Z yG),H.U [0,1,2,3]⟩;rintro ρ _ H;have a:=ai;refine bE a λal a am=>xC 5 [75,76,77,78,79] [(79,vb al)] (λwl=>Hd O w wl S [nH d b.Parts,cZ e b.Names,.blk h [sb b.Name,i6 b.Kind,d,i6 b.First,i6 b.Every,i6 b.Times,i6 b.Step,e] 128,.own (Rp.int .i64) m 3 ([1,2,4,8,16]:List Int)]) ?_ ?_;refine RJ a (λa=>zN<|zN<|zN<|pt (vb true) ?_) λa=>?_;cases a;exact jn<|meet ⟨(yB Z yG),H.U [0,1,2,3]⟩;refine zI (aEq Z)<|Ld fC H 2 6 Z Z<|eF a λan a=>pf (vb an) ?_;cases a;exact jn<|meet ⟨(yB Z yG),H.U [0,1,2,3]⟩;rintro ρ _ H;have a:=am
 refine RJ a (λa=>zN<|zN<|zN<|zN<|zN<|zN<|zN<|pt (vb true) ?_) λa=>?_;cases a;exact jn<|mt () (H.U [0,1,2]);refine zI (aEq Z)<|Ld fC H 2 6 Z Z<|dE a λao a=>zI (aAi Z)<|Ld fC H 2 5 Z Z<|dE a λap a=>RLb a (aZl (p:=ao) (q:=ap) u4 Z Z) λaq a=>pf (vb aq) ?_;cases a;exact jn<|mt () (H.U [0,1,2]);rintro _ ρ _ H;have H:=un3 H;have a:=ac;refine WJ a (λa=>SR<|zB (i6 9)<|RM ?_) λa=>?_;cases a;exact zH<|zG<|p1z ⟨Z,H.U []⟩;refine WZ<|jk a H (rg [2,1,7,1,89,23]) (λx (y:Unit)=>[]) (λx y=>[]) [] (λ_ a=>?_) ?_;refine SR<|zI (aAw Z)<|Ld aDl H 2 2 Z Z<|ln a (H.im 0 Z) aHu λ_ a=>zA (i6 0)<|RM<|zK<|lo a H (rg [2,1,7,1,92,20]) (λx (y:Unit)=>[(92,i6 x)]) (λx y=>[]) [0,1,2] () (H.U [0,1,2]) ?_;clear H a;rintro _ ar _ ρ _ H a;have H:=un3 H;refine SR<|eF a λ_ a=>RM<|SQ<|WJ a (λa=>WZ<|SQ<|zK<|SR<|bE a λf t a=>?_) λa=>?_;obtain⟨au,av,_,_,aw,ax,ay,az,a0⟩:=yZ (H.im 0 Z) t;obtain rfl:=uH ax;have H:=H.fz (.at au (av+ar.toNat*4) _) ⟨ay,az,a0⟩;refine ix aHu uA aw t<|zI (yK (zZ (cs:=[i6 f.Frame,i6 f.Word,i6 f.Low,i6 f.Bits]) aFv Z uA Z (H.im 3 Z).2.2) Z)<|xb (zY aIs H) λ_ cl H=>xu (zQ (vs:=[i6 f.Frame,i6 f.Word,i6 f.Low,i6 f.Bits]) H 4 Z uA Z Z Z ⟨Z,Z,Z,Z,T1⟩ Z) λ_ H=>RM<|bE a λa1 a a2=>jo H (rg [96,15]) (λ(g:Unit)=>[(110,vb a1)]) (λg=>[]) [0,1,2] ?_ ?_;refine zF<|zI (aEq Z)<|Ld fC H 2 6 Z Z<|jF a λ_ a=>RJ a ?_ ?_<;>intro a
 refine zN<|zN<|zN<|zN<|zN<|zN<|zN<|zN<|zN<|zN<|pt (vb true) ?_;cases a;exact jn<|mt () (H.U [0,1,2]);refine zI (aOt Z)<|Ld fC H 4 1 Z Z<|zI (aAi Z)<|Ld fC H 2 5 Z Z<|aBr a λ_ a=>zI (aEq Z)<|Ld fC H 2 6 Z Z<|aDw a λ_ a=>fQ a λ_ a=>jF a λa3 a=>pf (vb a3) ?_;cases a;exact jn<|mt () (H.U [0,1,2]);rintro _ ρ _ H;have H:=un3 H;have a:=a2;refine WJ a (λa=>SR<|zB (i6 9)<|RM ?_) λa=>?_;cases a;exact zH<|zL<|zG<|zG<|zL<|zG<|p1z ⟨Z,H.U []⟩;exact yI<|zU<|zJ<|KN<|zF<|fQ a λa4 a=>zA (i6 a4)<|jn<|me a () (H.U [0,1,2]);exact yC<|zO<|zO<|zW<|zJ<|me a () (H.U []);rintro _ _ ρ _ H a;refine SR<|zB (i6 0)<|RM ?_;cases a;exact zH<|p1z ⟨Z,H.U []⟩
theorem Fctw {e:List Str}{c:Str}{d:Value}{r:Int}(a:Fct e c=some r)(H:Hd O w w S [cZ d e]):
  Rt 201 [d,sb c] (i6 r) w O S []:=by
 refine CW 19 Tryz.func201 ?_;refine SR<|zB (i6 0)<|RM<|jk a H (rg [4,15]) (λx (y:Unit)=>[]) (λx y=>[]) [] (λi a=>?_) ?_;refine SR<|zA d<|ln a (H.im 0 Z) u29 λj a=>zA (i6 0)<|RM<|zK<|lo a H (rg [4,2,8,11]) (λx (y:Unit)=>[(8,i6 x)]) (λx y=>[]) [0] () (H.U [0]) ?_;clear H a;rintro k b _ ρ l H a;have H:=un1 H;refine SR<|eF a λm a=>RM<|SQ<|WJ a (λa=>WZ<|SQ<|zK<|SR<|zA (i6 b)<|zB (i6 b)<|RM<|SR<|zA (sb c)<|zA d<|zA (i6 b)<|bE a λf g a=>rea H (H.im 0 Z) (sb f) g u29 sz9 dN λn o H=>RLb a (xG (s1:=c) (s2:=f) Z Z) λ_ a=>RM<|WJ a (λa=>SR<|zA (i6 b)<|zB (i6 b)<|RM ?_) λa=>?_) λa=>?_;cases a;exact zH<|zL<|zG<|zG<|zL<|zG<|p1z ⟨Z,H.U []⟩;exact yI<|zU<|zJ<|KN<|zF<|fQ a λh a=>zA (i6 h)<|jn<|me a () (H.U [0]);exact yC<|zO<|zO<|zW<|zJ<|me a () (H.U []);rintro _ _ ρ _ H a;refine SR<|zB (i6 (-1))<|RM ?_;cases a;exact zH<|p1z ⟨Z,H.U []⟩
theorem Fanw {d:List Str}{b:Str}{c:Value}{r:Bool}(a:Fan d b=some r)(H:Hd O w w S [cZ c d]):
  Rt 132 [c,sb b] (vb r) w O S []:=by
 refine CW 9 Tryz.func132 ?_;refine SR<|zB (vb false)<|RM<|SR<|zA c<|zA (sb b)<|bE a λg e a=>RC en201 (Fctw e (H.W [] [0])) H λh H=>pV a λf a=>zB (vb f)<|RM ?_;cases a;exact zH<|p1z ⟨Z,H.U []⟩
theorem Fd6w {d:Param}{e f:Value}{r:Int}(c:Fd6 d=some r)(H:Hd O w w S [nH e d.Parts,cZ f d.Names]):
  Rt 168 [.agg [sb d.Name,i6 d.Kind,e,i6 d.First,i6 d.Every,i6 d.Times,i6 d.Step,f].toArray] (i6 r) w O S []:=by
 refine CW 82 Tryz.func168 ?_;refine SR<|xb (yJ (cs:=[sb d.Name,i6 d.Kind,e,i6 d.First,i6 d.Every,i6 d.Times,i6 d.Step,f]) Z H) λi _ H=>zB (i6 0)<|RM<|SR<|lb H 2 Z eU eQ<|bE c λg s c=>RC en229 (Fatw s (H.W [] [0,1])) H λ_ H=>zB (i6 g)<|RM<|SQ<|bE c λt c u=>sJ H (rg [8,31]) [(38,vb t)] ?_ ?_;refine zF<|zI (xZ Z)<|Ld fC H 2 1 Z Z<|dE c λ_ c=>bE c λz c A=>xC 5 [11,12,13,14,15] [(15,vb z)] (λwl=>Hd O w wl S [nH e d.Parts,cZ f d.Names,.blk i [sb d.Name,i6 d.Kind,e,i6 d.First,i6 d.Every,i6 d.Times,i6 d.Step,f] 128]) ?_ ?_;refine RJ c (λc=>zA (i6 g)<|bE c λ_ B c=>zI (aCk (j:=g) (q:=4) Z Z B)<|dP c λC c=>pt (vb C) ?_) λc=>?_;cases c;exact jn<|meet ⟨(yB Z yG),H.U [0,1,2]⟩;refine zN<|zN<|zN<|pf (vb false) ?_;cases c;exact jn<|meet ⟨(yB Z yG),H.U [0,1,2]⟩;rintro ρ _ H;have c:=A;refine bE c λD c E=>xC 9 [16,17,18,19,20,21,22,23,24] [(24,vb D)] (λwl=>Hd O w wl S [nH e d.Parts,cZ f d.Names,.blk i [sb d.Name,i6 d.Kind,e,i6 d.First,i6 d.Every,i6 d.Times,i6 d.Step,f] 128]) ?_ ?_;refine RJ c (λc=>zN<|zN<|zN<|zN<|zN<|zN<|zN<|pt (vb true) ?_) λc=>?_;cases c;exact jn<|meet ⟨(yB Z yG),H.U [0,1,2]⟩;refine zI (xZ Z)<|Ld fC H 2 1 Z Z<|dE c λ_ c=>RJ c (λc=>zA (i6 g)<|dP c λm c=>pt (vb m)<|pf (vb m) ?_) λc=>?_;cases c;exact jn<|meet ⟨(yB Z yG),H.U [0,1,2]⟩;refine zN<|zN<|pf (vb false)<|pf (vb false) ?_;cases c;exact jn<|meet ⟨(yB Z yG),H.U [0,1,2]⟩
 rintro ρ _ H;have c:=E;refine RJ c (λc=>zN<|zN<|zN<|zN<|zN<|zN<|zN<|zN<|zN<|zN<|zN<|zN<|pt (vb true) ?_) λc=>?_;cases c;exact jn<|mt () (H.U [0,1,2]);refine zI (xZ Z)<|Ld fC H 2 1 Z Z<|dE c λ_ c=>bE c λF c G=>xC 5 [29,30,31,32,33] [(33,vb F)] (λwl=>Hd O w wl S [nH e d.Parts,cZ f d.Names,.blk i [sb d.Name,i6 d.Kind,e,i6 d.First,i6 d.Every,i6 d.Times,i6 d.Step,f] 128]) ?_ ?_;refine RJ c (λc=>zN<|zN<|zN<|pt (vb true) ?_) λc=>?_;cases c;exact jn<|meet ⟨(yB Z yG),H.U [0,1,2]⟩;refine zI (xZ Z)<|Ld fC H 2 1 Z Z<|dE c λI c=>pf (vb I) ?_;cases c;exact jn<|meet ⟨(yB Z yG),H.U [0,1,2]⟩;rintro ρ _ H;have c:=G;refine RJ c (λc=>zA (i6 g)<|dE c λn c=>pt (vb n)<|pf (vb n) ?_) λc=>?_;cases c;exact jn<|mt () (H.U [0,1,2]);refine zN<|zN<|pf (vb false)<|pf (vb false) ?_;cases c;exact jn<|mt () (H.U [0,1,2]);rintro _ ρ _ H;have c:=u;refine WJ c (λc=>SR<|zB (i6 2)<|RM ?_) λc=>?_;cases c;exact zH<|zG<|p1z ⟨Z,H.U []⟩;refine WZ<|SQ<|SR<|zI (xZ Z)<|Ld fC H 2 1 Z Z<|dP c λ_ c=>RM<|WJ c (λc=>SQ<|SR<|zI (aAd Z)<|Ld sK H 2 7 Z Z<|ln c (H.im 1 Z) u29 λ_ c=>jF c λ_ c=>RM<|WJ c (λc=>SR<|zB (i6 2)<|RM ?_) λc=>?_) λc=>?_;cases c;exact zH<|zG<|zG<|p1z ⟨Z,H.U []⟩;refine WZ<|SR<|zB (i6 0)<|RM ?_;cases c;exact zH<|zG<|p1z ⟨Z,H.U []⟩;refine WZ<|SQ<|zK<|SR<|zI (aAd Z)<|Ld sK H 2 7 Z Z<|ln c (H.im 1 Z) u29 λ_ c=>dE c λJ c=>zB (vb J)<|RM<|WJ c ?_ ?_<;>intro c
 refine SR<|zB (i6 13)<|RM ?_;cases c;exact zH<|zL<|zG<|p1z ⟨Z,H.U []⟩;refine bE c λK c L=>sJ H (rg [51,13]) [(51,vb K)] ?_ ?_;have o:=H;have H:=H.rb;have az:=H;refine xN H (rg [0,13]) (kz [0,1,0,0,0,0,1,0,0,0,0,0,0]) mixed ?_;refine XQ (aAd Z)<|XR sK H 2 7 Z Z<|lE c λM N c=>?_;obtain⟨a0,_,P⟩:=SlF.len ((H.im 1 Z));refine XQ (yK (aA u29 P) (congrArg (Value.int .i64) N))<|lE c λQ R c=>XQ (aT (aDy (a:=M) (b:=64) Z Z) R)<|MxM.XL_splitb (b:=Q) Z Z Z Z (λk=>?_) (λk=>?_);have c:=vN k c;refine XO<|MxM.XL_offr oS Z Z Z ?_;refine XO<|XO<|XO<|XO<|XQ (mY (v:=vb true) Z Z)<|XQ (yQ (v:=vb true) Z)<|nJ o H λa2 H=>?_;cases c;exact zJ<|mt () (H.U [0,1,2]);have c:=vV k c;refine XQ (aAd Z)<|XR sK H 2 7 Z Z<|lE c λT U c=>?_;obtain⟨a3,a4,V⟩:=SlF.len ((H.im 1 Z));refine XQ (yK (aA u29 V) (congrArg (Value.int .i64) U))<|XM (i6 g)<|bE c λX Y c=>XQ (wW (j:=1) (q:=g) Z Z Y)<|lE c λp aa c=>XQ (aT (aDy (a:=T) (b:=X) Z Z) aa)<|XQ (pR (v:=vb p) Z Z)<|XQ (yQ (v:=vb p) Z)<|nJ o H λa5 H=>?_;cases c;exact zJ<|mt () (H.U [0,1,2]);rintro _ ρ _ H;have c:=L;refine WJ c (λc=>SR<|zB (i6 3)<|RM ?_) λc=>?_;cases c;exact zH<|zL<|zG<|p1z ⟨Z,H.U []⟩;refine yI<|zU<|zJ<|KN<|jk c H (rg [2,1,4,2,64,18]) (λx (y:Unit)=>[]) (λx y=>[]) [] (λ_ c=>?_) ?_;refine SR<|zI (aAd Z)<|Ld sK H 2 7 Z Z<|ln c (H.im 1 Z) u29 λ_ c=>zA (i6 0)<|RM<|zK<|lo c H (rg [2,1,4,2,67,15]) (λx (y:Unit)=>[(67,i6 x)]) (λx y=>[]) [0,1,2] () (H.U [0,1,2]) ?_
 clear H c;rintro a9 l _ ρ _ H c;have H:=un3 H;refine SR<|eF c λ_ c=>RM<|SQ<|WJ c (λc=>WZ<|SQ<|zK<|SR<|zA (i6 l)<|bE c λh ab c=>rea H (H.im 1 Z) (sb h) ab u29 sz9 dN λ_ _ H=>zB (i6 l)<|zB (sb h)<|RM<|SQ<|SR<|zA (sb h)<|bE c λ_ ac c=>RC en166 (Fbjw ac (H.W [] [])) H λbf H=>eX c λ_ c=>RM<|WJ c (λc=>SR<|zB (i6 8)<|RM ?_) λc=>?_) λc=>?_;cases c;exact zH<|zG<|zL<|zG<|zG<|zL<|zG<|p1z ⟨Z,H.U []⟩;refine WZ<|SR<|zI (aAd Z)<|Ld sK H 2 7 Z Z<|zA (i6 l)<|bE c λad ae c=>aAf Z Z (qZ u29 sz9 (H.im 1 Z) Z Z ae) ?_;rintro af ag;have H:=H.fz (.sl Rp.str af ad) ag;refine zA (sb h)<|bE c λ_ ah c=>RC aUj (Fanw ah (H.W [] [4])) H λ_ H=>RM<|WJ c (λc=>SR<|zB (i6 5)<|RM ?_) λc=>?_;cases c;exact zH<|zL<|zG<|zG<|zL<|zG<|p1z ⟨Z,H.U []⟩;exact yI<|zU<|zJ<|KN<|zF<|fQ c λai c=>zA (i6 ai)<|jn<|me c () (H.U [0,1,2]);exact yC<|zO<|zO<|zW<|zJ<|me c () (H.U []);rintro _ _ ρ _ H c;refine SR<|zB (i6 0)<|RM ?_;cases c;exact zH<|p1z ⟨Z,H.U []⟩
end Go.Proofs.YtbjofgmdhbiekaaGreatDoor.L
