/- Walks that the claim stands on; no condition beyond those stated. -/
import Derived.Test.YtbjofgmdhbiekaaGreatDoorUP
import Derived.Test.YtbjofgmdhbiekaaGreatDoorXVq
import Derived.Test.YtbjofgmdhbiekaaGreatDoorShK
namespace Go.Proofs.YtbjofgmdhbiekaaGreatDoor.L
open Go.RowKit Go.OB Go.Lf
set_option maxRecDepth 100000
set_option maxHeartbeats 4000000
abbrev vb:=Value.bool
theorem T1:True:=trivial
theorem Z {α:Sort _}{a:α}:a=a:=rfl
variable {O S:List Nat}{w:World}
abbrev En (f:FuncId):Prop:=Go.OB.Enters Tryz.prog f
theorem RN {P:Program}{N:Nat}{ops:Array Oper}{y:Code}{K:Env->World->Prop}{Q Q':Exit->Env->World->Prop}{ρ:Env}{w:World}(h: ∀ρ w,WP P N y Q ρ w->K ρ w)(n:WP P N y Q ρ w):RL P N ops (mX K Q') [] ρ w:=yL (zG (h _ _ n))
theorem CW {P:Program}{f:FuncId}{fn:Func}{c:Code}{args:List Value}{w:World}{R:Ending->World->Prop}(N:Nat)(hf:P.funcs[f]? =some fn)(h:WP P N c (aAg P fn.results R) (aLz args) w)(hb:fn.body=some c:=by exact rfl)(hN:fn.ntmps=N:=by exact rfl)(hl:Nat.ble args.length N=true:=by exact rfl):Calls P f args.toArray w R:=rE N hf hb hN hl h
theorem mt {W:List Nat}{ρ ρ':Env}{G:Type}{S:G->List (Nat×Value)}{B:G->Prop}(g:G)(h:B g)(hs:Sl ρ' (S g):=by repeat (first |exact yF|refine yB rfl ?_))(hf:Fr W ρ ρ':=by repeat' (first |with_reducible exact aEy|refine aPf rfl ?_|refine aIt rfl rfl ?_)):Fr W ρ ρ'/\ ∃g,Sl ρ' (S g)/\B g:=⟨hf,g,hs,h⟩
theorem ml {W:List Nat}{ρ ρ':Env}{G:Type}{S:G->List (Nat×Value)}{B C:G->Prop}{μ:G->Nat}{n:Nat}(g:G)(h:B g)(c:C g)(hs:Sl ρ' (S g):=by repeat (first |exact yF|refine yB rfl ?_))(hn:μ g<n:=by exact Nat.lt_succ_self _)(hf:Fr W ρ ρ':=by repeat' (first |with_reducible exact aEy|refine aPf rfl ?_|refine aIt rfl rfl ?_)):Fr W ρ ρ'/\ ∃g,Sl ρ' (S g)/\(B g/\C g)/\μ g<n:=⟨hf,g,hs,⟨h,c⟩,hn⟩
def rg:List Nat->List Nat
 |a::n::l=>List.range' a n++rg l
 |_=>[]
section
variable {P:Program}{N:Nat}{ops:Array Oper}{Q Q':Exit->Env->World->Prop}{rest:List Oper}{ρ:Env}{w:World}{d:Nat}{op:Op}{ty:TypeId}{pos:String}{af:Array Edge}{gd:Option (Nat×Bool)}
theorem RLb {β:Type}{b:Bool}{k:Bool->Option β}{r:β}(a:gG b k=some r)(hd:Do P ⟨some d,op,ty,pos,af,gd⟩ ρ w (vb b) w)(n: ∀x,k x=some r->RL P N ops Q rest (upd ρ d (vb x)) w)(hw:fM N ops ρ ⟨some d,op,ty,pos,af,gd⟩=true:=by exact rfl)(c:Nat.blt d N=true:=by exact rfl):RL P N ops Q (⟨some d,op,ty,pos,af,gd⟩::rest) ρ w:=aF hw c hd (n b a)
theorem RLi {β:Type}{b:Int}{kk:IntKind}{k:Int->Option β}{r:β}(a:gG b k=some r)(hd:Do P ⟨some d,op,ty,pos,af,gd⟩ ρ w (.int kk b) w)(n: ∀x,k x=some r->RL P N ops Q rest (upd ρ d (.int kk x)) w)(hw:fM N ops ρ ⟨some d,op,ty,pos,af,gd⟩=true:=by exact rfl)(c:Nat.blt d N=true:=by exact rfl):RL P N ops Q (⟨some d,op,ty,pos,af,gd⟩::rest) ρ w:=aF hw c hd (n b a)
theorem WI {β:Type}{b:Bool}{x y:Option β}{r:β}{c:Operand}{s t:Code}(a:gJ b x y=some r)(hc:ev ρ c=vb b)(ht:x=some r->WP P N s Q ρ w)(hf:y=some r->WP P N t Q ρ w):WP P N (.cond c s t) Q ρ w:=aDg hc (λc=>ht (jG c a)) (λc=>hf (jJ c a))
theorem RI {β:Type}{b:Bool}{x y:Option β}{r:β}{z:Operand}(a:gJ b x y=some r)(hx:ev ρ z=vb b)(ht:x=some r->RL P N ops Q rest (upd ρ d (vb true)) w)(hf:y=some r->RL P N ops Q rest (upd ρ d (vb false)) w)(hw:fM N ops ρ ⟨some d,.move z,ty,pos,af,gd⟩=true:=by exact rfl)(e:Nat.blt d N=true:=by exact rfl):RL P N ops Q (⟨some d,.move z,ty,pos,af,gd⟩::rest) ρ w:=RL_splitb hw e hx (λc=>ht (jG c a)) (λc=>hf (jJ c a))
theorem RC {f:FuncId}{args:Array Operand}{at_:Array TypeId}{vs:List Value}{v:Value}{O c S:List Nat}{b:World}{l:List Th}(he:Go.OB.Enters P f)(hc:Calls P f vs.toArray w λe a=>e= .returned v/\Hd c w a [] [])(H:Hd O b w S l)(k: ∀a,Hd O b a S l->RL P N ops Q rest (upd ρ d v) a)(ha:args.toList.map (ev ρ)=vs:=by exact rfl)(hw:fM N ops ρ ⟨some d,.call {callee:= .value (.func f),args:=args,argTypes:=at_},ty,pos,af,gd⟩=true:=by exact rfl)(g:Nat.blt d N=true:=by exact rfl):RL P N ops Q (⟨some d,.call {callee:= .value (.func f),args:=args,argTypes:=at_},ty,pos,af,gd⟩::rest) ρ w:=by
 refine xC hw g (yR he ha) hc ?_;rintro _ a ⟨rfl,G⟩;exact⟨_,rfl,k _ (H.step G.only)⟩
end
section
variable {P:Program}{N:Nat}{ops:Array Oper}{Q Q':Exit->Env->World->Prop}{rest:List Oper}{ρ:Env}{w:World}{d:Nat}{t u ty:TypeId}{x y:Operand}{pos:String}{af:Array Edge}{g:Option (Nat×Bool)}
def KK (P:Program)(N:Nat)(y:Code)(Q:Exit->Env->World->Prop):Env->World->Prop:=WP P N y Q
theorem SQ {x y:Code}(h:WP P N x (mX (KK P N y Q) Q) ρ w):WP P N (.seq x y) Q ρ w:=aUq h λ_ _ h=>h
theorem SR {id:Nat}{l:List Oper}{y:Code}(h:RL P N l.toArray (mX (KK P N y Q) Q) l ρ w):WP P N (.seq (.region id l.toArray false) y) Q ρ w:=SQ (zD h)
theorem RM {y:Code}(n:WP P N y Q ρ w):RL P N ops (mX (KK P N y Q) Q') [] ρ w:=yL (zG n)
theorem WZ {y:Code}(n:WP P N y Q ρ w):WP P N .skip (mX (KK P N y Q) Q') ρ w:=yE (zG n)
theorem KN {y:Code}(n:WP P N y Q ρ w):KK P N y Q ρ w:=n
theorem jn {K:Env->World->Prop}(n:K ρ w):RL P N ops (mX K Q') [] ρ w:=yL (zG n)
theorem js {K:Env->World->Prop}(n:K ρ w):WP P N .skip (mX K Q') ρ w:=yE (zG n)
theorem fF {a b:Int}{kk:IntKind}{β:Type}{k:Bool->Option β}{r:β}(c:gG (decide (a<b)) k=some r)(n: ∀x,k x=some r->RL P N ops Q rest (upd ρ d (vb x)) w)(hx:ev ρ x= .int kk a:=by exact rfl)(hy:ev ρ y= .int kk b:=by exact rfl)(hw:fM N ops ρ ⟨some d,.binOp .lss t x y u,ty,pos,af,g⟩=true:=by exact rfl)(e:Nat.blt d N=true:=by exact rfl):RL P N ops Q (⟨some d,.binOp .lss t x y u,ty,pos,af,g⟩::rest) ρ w:=RLb c (uU hx hy) n hw e
theorem tH {a b:Int}{kk:IntKind}{β:Type}{k:Bool->Option β}{r:β}(c:gG (decide (a<=b)) k=some r)(n: ∀x,k x=some r->RL P N ops Q rest (upd ρ d (vb x)) w)(hx:ev ρ x= .int kk a:=by exact rfl)(hy:ev ρ y= .int kk b:=by exact rfl)(hw:fM N ops ρ ⟨some d,.binOp .leq t x y u,ty,pos,af,g⟩=true:=by exact rfl)(e:Nat.blt d N=true:=by exact rfl):RL P N ops Q (⟨some d,.binOp .leq t x y u,ty,pos,af,g⟩::rest) ρ w:=RLb c (aDk hx hy) n hw e
theorem dR {a b:Int}{kk:IntKind}{β:Type}{k:Bool->Option β}{r:β}(c:gG (decide (b<a)) k=some r)(n: ∀x,k x=some r->RL P N ops Q rest (upd ρ d (vb x)) w)(hx:ev ρ x= .int kk a:=by exact rfl)(hy:ev ρ y= .int kk b:=by exact rfl)(hw:fM N ops ρ ⟨some d,.binOp .gtr t x y u,ty,pos,af,g⟩=true:=by exact rfl)(e:Nat.blt d N=true:=by exact rfl):RL P N ops Q (⟨some d,.binOp .gtr t x y u,ty,pos,af,g⟩::rest) ρ w:=RLb c (vJ hx hy) n hw e
theorem jR {a b:Int}{kk:IntKind}{β:Type}{k:Bool->Option β}{r:β}(c:gG (decide (b<=a)) k=some r)(n: ∀x,k x=some r->RL P N ops Q rest (upd ρ d (vb x)) w)(hx:ev ρ x= .int kk a:=by exact rfl)(hy:ev ρ y= .int kk b:=by exact rfl)(hw:fM N ops ρ ⟨some d,.binOp .geq t x y u,ty,pos,af,g⟩=true:=by exact rfl)(e:Nat.blt d N=true:=by exact rfl):RL P N ops Q (⟨some d,.binOp .geq t x y u,ty,pos,af,g⟩::rest) ρ w:=RLb c (Do_geq hx hy) n hw e
theorem eF {a b:Int}{kk:IntKind}{β:Type}{k:Bool->Option β}{r:β}(c:gG (decide (a=b)) k=some r)(n: ∀x,k x=some r->RL P N ops Q rest (upd ρ d (vb x)) w)(hx:ev ρ x= .int kk a:=by exact rfl)(hy:ev ρ y= .int kk b:=by exact rfl)(hw:fM N ops ρ ⟨some d,.binOp .eql t x y u,ty,pos,af,g⟩=true:=by exact rfl)(e:Nat.blt d N=true:=by exact rfl):RL P N ops Q (⟨some d,.binOp .eql t x y u,ty,pos,af,g⟩::rest) ρ w:=RLb c (aGl hx hy) n hw e
theorem dK {a b:Int}{kk:IntKind}{β:Type}{k:Bool->Option β}{r:β}(c:gG (decide (a≠b)) k=some r)(n: ∀x,k x=some r->RL P N ops Q rest (upd ρ d (vb x)) w)(hx:ev ρ x= .int kk a:=by exact rfl)(hy:ev ρ y= .int kk b:=by exact rfl)(hw:fM N ops ρ ⟨some d,.binOp .neq t x y u,ty,pos,af,g⟩=true:=by exact rfl)(e:Nat.blt d N=true:=by exact rfl):RL P N ops Q (⟨some d,.binOp .neq t x y u,ty,pos,af,g⟩::rest) ρ w:=RLb c (aDt hx hy) n hw e
theorem fE {a b:Int}{kk:IntKind}{β:Type}{k:Int->Option β}{r:β}(c:gG (kk.wrap (a+b)) k=some r)(n: ∀x,k x=some r->RL P N ops Q rest (upd ρ d (.int kk x)) w)(hx:ev ρ x= .int kk a:=by exact rfl)(hy:ev ρ y= .int kk b:=by exact rfl)(hw:fM N ops ρ ⟨some d,.binOp .add t x y u,ty,pos,af,g⟩=true:=by exact rfl)(e:Nat.blt d N=true:=by exact rfl):RL P N ops Q (⟨some d,.binOp .add t x y u,ty,pos,af,g⟩::rest) ρ w:=RLi c (nR hx hy rfl) n hw e
theorem kH {a b:Int}{kk:IntKind}{β:Type}{k:Int->Option β}{r:β}(c:gG (kk.wrap (a-b)) k=some r)(n: ∀x,k x=some r->RL P N ops Q rest (upd ρ d (.int kk x)) w)(hx:ev ρ x= .int kk a:=by exact rfl)(hy:ev ρ y= .int kk b:=by exact rfl)(hw:fM N ops ρ ⟨some d,.binOp .sub t x y u,ty,pos,af,g⟩=true:=by exact rfl)(e:Nat.blt d N=true:=by exact rfl):RL P N ops Q (⟨some d,.binOp .sub t x y u,ty,pos,af,g⟩::rest) ρ w:=RLi c (bG hx hy rfl) n hw e
theorem tY {a b:Int}{kk:IntKind}{β:Type}{k:Int->Option β}{r:β}(c:gG (kk.wrap (a*b)) k=some r)(n: ∀x,k x=some r->RL P N ops Q rest (upd ρ d (.int kk x)) w)(hx:ev ρ x= .int kk a:=by exact rfl)(hy:ev ρ y= .int kk b:=by exact rfl)(hw:fM N ops ρ ⟨some d,.binOp .mul t x y u,ty,pos,af,g⟩=true:=by exact rfl)(e:Nat.blt d N=true:=by exact rfl):RL P N ops Q (⟨some d,.binOp .mul t x y u,ty,pos,af,g⟩::rest) ρ w:=RLi c (aCb hx hy rfl) n hw e
theorem sJ {x y:Code}{O S:List Nat}{a b:World}{T:List Th}(_:Hd O a b S T)(W:List Nat)(l:List (Nat×Value))(h:WP P N x (mX (λρ' c=>Fr W ρ ρ'/\ ∃g:Unit,Sl ρ' ((λ_=>l) g)/\(λ_ wl=>Hd O a wl S T) g c) Q) ρ w)(k: ∀(_:Unit) ρ₁ w,Hd O a w S T->WP P N y Q (over ρ ρ₁ W l) w):WP P N (.seq x y) Q ρ w:=aIj W (λ_:Unit=>l) (λ_ wl=>Hd O a wl S T) h k
theorem bE {α β:Type}{p:Prop}{x:Option α}{f:α->Option β}{r:β}(h:gB x f=some r)(k: ∀y,x=some y->f y=some r->p):p:=(yA h).elim λy q=>k y q.1 q.2
theorem lE {α β:Type}{p:Prop}{x:α}{f:α->Option β}{r:β}(h:gG x f=some r)(k: ∀y,x=y->f y=some r->p):p:=(aCs h).elim λy q=>k y q.1 q.2
theorem XQ {I:World->Prop}{κ:List MxM.Kd}{K:MxM.Mm->Env->World->Prop}{k:Nat}{M:MxM.Mm}{σ:List Nat}{v:Value}{op:Op}(h: ∀{a},Do P ⟨some d,op,ty,pos,af,g⟩ ρ a v a)(n:MxM.XL P I N ops κ K M σ rest (upd ρ d v) w)(hk:MxM.kdOf κ k= .pure:=by exact rfl)(hw:fM N ops ρ ⟨some d,op,ty,pos,af,g⟩=true:=by exact rfl)(b:Nat.blt d N=true:=by exact rfl):MxM.XL P I N ops κ K M (k::σ) (⟨some d,op,ty,pos,af,g⟩::rest) ρ w:=MxM.XL_pure hk hw b (λ_ _=>h) n
theorem eX {b:Bool}{β:Type}{k:Bool->Option β}{r:β}(a:gG (!b) k=some r)(n: ∀x,k x=some r->RL P N ops Q rest (upd ρ d (vb x)) w)(hx:ev ρ x=vb b:=by exact rfl)(hw:fM N ops ρ ⟨some d,.unOp .not t x,ty,pos,af,g⟩=true:=by exact rfl)(c:Nat.blt d N=true:=by exact rfl):RL P N ops Q (⟨some d,.unOp .not t x,ty,pos,af,g⟩::rest) ρ w:=RLb a (pU hx) n hw c
theorem pt (v:Value){z:Operand}(n:RL P N ops Q rest (upd ρ d v) w)(hx:ev ρ x=vb true:=by exact rfl)(hy:ev ρ y=v:=by exact rfl)(hw:fM N ops ρ ⟨some d,.pick x y z,ty,pos,af,g⟩=true:=by exact rfl)(a:Nat.blt d N=true:=by exact rfl):RL P N ops Q (⟨some d,.pick x y z,ty,pos,af,g⟩::rest) ρ w:=aF hw a (dA hx hy) n
theorem pf (v:Value){z:Operand}(n:RL P N ops Q rest (upd ρ d v) w)(hx:ev ρ x=vb false:=by exact rfl)(hz:ev ρ z=v:=by exact rfl)(hw:fM N ops ρ ⟨some d,.pick x y z,ty,pos,af,g⟩=true:=by exact rfl)(a:Nat.blt d N=true:=by exact rfl):RL P N ops Q (⟨some d,.pick x y z,ty,pos,af,g⟩::rest) ρ w:=aF hw a (dX hx hz) n
theorem ix {α:Type}{L:List α}{i:Int}{z:α}{e:TypeId}{b o s c:Nat}{kk:IntKind}(hu:P.underlying t=some (.slice e))(hs:Sz P e s)(hx:ev ρ x= .slice (some ⟨b,o,none⟩) L.length c)(h:at' L i=some z)(n:RL P N ops Q rest (upd ρ d (.pointer (some ⟨b,o+i.toNat*s,none⟩))) w)(hy:ev ρ y= .int kk i:=by exact rfl)(hw:fM N ops ρ ⟨some d,.indexAddr t x y,ty,pos,af,g⟩=true:=by exact rfl)(a:Nat.blt d N=true:=by exact rfl):RL P N ops Q (⟨some d,.indexAddr t x y,ty,pos,af,g⟩::rest) ρ w:=aF hw a (xG hu hs hx hy (zY h).1 (zY h).2.1 rfl rfl) n
theorem lb {O S:List Nat}{a:World}{l:List Th}{b T n:Nat}{cs:List Value}(H:Hd O a w S l)(i:Nat)(h:l[i]? =some (.blk b cs T))(c:Agg P t)(hs:Sz P t n)(k:RL P N ops Q rest (upd ρ d (.agg cs.toArray)) w)(hx:ev ρ x= .pointer (some ⟨b,0,none⟩):=by exact rfl)(hl:cs.length=n:=by exact rfl)(hw:fM N ops ρ ⟨some d,.load t x,ty,pos,af,g⟩=true:=by exact rfl)(e:Nat.blt d N=true:=by exact rfl):RL P N ops Q (⟨some d,.load t x,ty,pos,af,g⟩::rest) ρ w:=aF hw e (zW c hx hs hl (Blk.cells (H.V h))) k
theorem WJ {β:Type}{b:Bool}{x y:Option β}{r:β}{c:Operand}{s t:Code}(a:gJ b x y=some r)(ht:x=some r->WP P N s Q ρ w)(hf:y=some r->WP P N t Q ρ w)(hc:ev ρ c=vb b:=by exact rfl):WP P N (.cond c s t) Q ρ w:=WI a hc ht hf
theorem RJ {β:Type}{b:Bool}{x y:Option β}{r:β}{z:Operand}(a:gJ b x y=some r)(ht:x=some r->RL P N ops Q rest (upd ρ d (vb true)) w)(hf:y=some r->RL P N ops Q rest (upd ρ d (vb false)) w)(hx:ev ρ z=vb b:=by exact rfl)(hw:fM N ops ρ ⟨some d,.move z,ty,pos,af,g⟩=true:=by exact rfl)(c:Nat.blt d N=true:=by exact rfl):RL P N ops Q (⟨some d,.move z,ty,pos,af,g⟩::rest) ρ w:=RI a hx ht hf hw c
end
abbrev Sm {O S:List Nat}{v w:World}{l:List Th}(_:Hd O v w S l)(w':World)(l':List Th):Prop:=Hd O v w' S l'
section
variable {P:Program}{N:Nat}{Q:Exit->Env->World->Prop}{ρ:Env}{w wo:World}{O S:List Nat}{T:List Th}{X Y β:Type}{r:β}{c x y:Code}
abbrev pj (J:List Nat)(t T:List Th):=Go.Lf.pick J (t++T)
theorem jo (_:Hd O wo w S T)(W:List Nat)(l:Y->List (Nat×Value))(t:Y->List Th)(J:List Nat)(h:WP P N x (mX (λρ' a=>Fr W ρ ρ'/\ ∃z:Y,Sl ρ' (l z)/\Hd O wo a S (pj J (t z) T)) Q) ρ w)(k: ∀z ρ₁ w,Hd O wo w S (pj J (t z) T)->WP P N y Q (over ρ ρ₁ W (l z)) w):WP P N (.seq x y) Q ρ w:=aIj W l (λz wl=>Hd O wo wl S (pj J (t z) T)) h k
theorem jk {b:X->Option β}{m:(X->Option β)->Option β}(a:fP b m=some r)(_:Hd O wo w S T)(W:List Nat)(l:X->Y->List (Nat×Value))(t:X->Y->List Th)(J:List Nat)(h: ∀k:X->Option β,m k=some r->WP P N x (mX (λρ' c=>Fr W ρ ρ'/\ ∃u v,Sl ρ' (l u v)/\Hd O wo c S (pj J (t u v) T)/\k u=some r) Q) ρ w)(k: ∀u v ρ₁ w,Hd O wo w S (pj J (t u v) T)->b u=some r->WP P N y Q (over ρ ρ₁ W (l u v)) w):WP P N (.seq x y) Q ρ w:=by
 refine aIj (G:=X×Y) W (λg=>l g.1 g.2) (λg wl=>Hd O wo wl S (pj J (t g.1 g.2) T)/\b g.1=some r) ((h b a).mono ?_) (λg ρ₁ w hg=>k g.1 g.2 ρ₁ w hg.1 hg.2);intro e ρ' c hq
 cases e<;>first |(obtain⟨d,u,v,f,i,j⟩:=hq;exact⟨d,(u,v),f,i,j⟩)|exact hq
theorem lo {b:(X->Option β)->X->Option β}{d:X}(a:gY b d=some r)(_:Hd O wo w S T)(W:List Nat)(l:X->Y->List (Nat×Value))(t:X->Y->List Th)(J:List Nat)(f:Y)(j:Hd O wo w S (pj J (t d f) T))(n: ∀k u v ρ₁ w,Hd O wo w S (pj J (t u v) T)->b k u=some r->WP P N c (mX (λρ' i=>Fr W ρ ρ'/\ ∃u v,Sl ρ' (l u v)/\Hd O wo i S (pj J (t u v) T)/\k u=some r) Q) (over ρ ρ₁ W (l u v)) w)(hs:Sl ρ (l d f):=by repeat (first |exact yF|refine yB rfl ?_)):WP P N (.loop c) Q ρ w:=by
 obtain⟨B,m,rfl,o⟩:=aVs a;refine aSh (G:=Nat×X×Y) W (λg=>l g.2.1 g.2.2) (λg wl=>Hd O wo wl S (pj J (t g.2.1 g.2.2) T)/\bZ B g.1 g.2.1=some r) (λg=>g.1) (m,d,f) hs ⟨j,o⟩ ?_;rintro⟨m,u,v⟩ ρ₁ w ⟨p,h⟩;obtain⟨m,rfl,h⟩:=loopN_pos h;refine(n (bZ B m) u v ρ₁ w p h).mono ?_;intro e ρ' i hq
 cases e<;>first |(obtain⟨q,u',v',s,x,y⟩:=hq;exact⟨q,(m,u',v'),s,⟨x,y⟩,Nat.lt_succ_self _⟩)|exact hq
theorem me {W:List Nat}{ρ ρ':Env}{k:X->Option β}{l:X->Y->List (Nat×Value)}{B:X->Y->Prop}{u:X}(a:k u=some r)(y:Y)(h:B u y)(hs:Sl ρ' (l u y):=by repeat (first |exact yF|refine yB rfl ?_))(hf:Fr W ρ ρ':=by repeat' (first |with_reducible exact aEy|refine aPf rfl ?_|refine aIt rfl rfl ?_)):Fr W ρ ρ'/\ ∃u v,Sl ρ' (l u v)/\B u v/\k u=some r:=⟨hf,u,y,hs,h,a⟩
end
section
variable {P:Program}{N:Nat}{ops:Array Oper}{Q:Exit->Env->World->Prop}{rest:List Oper}{ρ:Env}{w wo:World}{d dd:Nat}{op:Op}{t e tt uu ty tyy:TypeId}{x y xx:Operand}{pos poo:String}{af aff:Array Edge}{g gg:Option (Nat×Bool)}{f:FuncId}{args:Array Operand}{at_:Array TypeId}{vs:List Value}{O S:List Nat}{l:List Th}{α β A B C D:Type}{r:β}{v:Value}
theorem xu {R:World->Prop}(h: ∃a,DoU P ⟨none,op,ty,pos,af,g⟩ ρ w a/\R a)(k: ∀a,R a->RL P N ops Q rest ρ a)(hw:fM N ops ρ ⟨none,op,ty,pos,af,g⟩=true:=by exact rfl):RL P N ops Q (⟨none,op,ty,pos,af,g⟩::rest) ρ w:=RL_exU hw h k
theorem xv {R:Value->World->Prop}(h: ∃v a,Do P ⟨some d,op,ty,pos,af,g⟩ ρ w v a/\R v a)(k: ∀v a,R v a->RL P N ops Q rest (upd ρ d v) a)(hw:fM N ops ρ ⟨some d,op,ty,pos,af,g⟩=true:=by exact rfl)(hd:Nat.blt d N=true:=by exact rfl):RL P N ops Q (⟨some d,op,ty,pos,af,g⟩::rest) ρ w:=nZ hw hd h k
theorem xb {R:Nat->World->Prop}(h: ∃v a,Do P ⟨some d,op,ty,pos,af,g⟩ ρ w v a/\ ∃b,v= .pointer (some ⟨b,0,none⟩)/\R b a)(k: ∀b a,R b a->RL P N ops Q rest (upd ρ d (.pointer (some ⟨b,0,none⟩))) a)(hw:fM N ops ρ ⟨some d,op,ty,pos,af,g⟩=true:=by exact rfl)(hd:Nat.blt d N=true:=by exact rfl):RL P N ops Q (⟨some d,op,ty,pos,af,g⟩::rest) ρ w:=nZ hw hd h λ_ _ ⟨b,e,q⟩=>e▸k b _ q
theorem ln {L:List α}{rr:Rp α}{F:Nat->Prop}{k:Int->Option β}{b:World}(f:gG (L.length:Int) k=some r)(h:SlF rr F b v L)(hu:P.underlying t=some (.slice e))(n: ∀x,k x=some r->RL P N ops Q rest (upd ρ d (.int .i64 x)) w)(hx:ev ρ x=v:=by exact rfl)(hw:fM N ops ρ ⟨some d,.call {callee:= .builtin .len,args:= #[x],argTypes:= #[t]},ty,pos,af,g⟩=true:=by exact rfl)(i:Nat.blt d N=true:=by exact rfl):RL P N ops Q (⟨some d,.call {callee:= .builtin .len,args:= #[x],argTypes:= #[t]},ty,pos,af,g⟩::rest) ρ w:=by
 obtain⟨a,c,q⟩:=SlF.len h;exact aF hw i (dM hu (hx.trans q)) (n _ f)
theorem rea {L:List α}{a:α}{rr:Rp α}{j:Int}{kk:IntKind}(H:Hd O wo w S l)(k:SlF rr (frees O l) w v L)(z:Value)(h:at' L j=some a)(hu:P.underlying t=some (.slice e))(hs:Sz P e 1)(m:aAo P tt)(n: ∀b o,Hd O wo w S (l++[.fz (.at b (o+j.toNat*1) [z])])->RL P N ops Q rest (upd (upd ρ d (.pointer (some ⟨b,o+j.toNat*1,none⟩))) dd z) w)(hc: ∀F w cs,rr.rd F w cs a->cs=[z]:=by exact λ_ _ _ h=>h)(p:rr.sz=1:=by exact rfl)(hx:ev ρ x=v:=by exact rfl)(hy:ev ρ y= .int kk j:=by exact rfl)(s: ∀q,ev (upd ρ d q) xx=q:=by exact λ_=>rfl)(hw:fM N ops ρ ⟨some d,.indexAddr t x y,ty,pos,af,g⟩=true:=by exact rfl)(hd:Nat.blt d N=true:=by exact rfl)(hv: ∀q,fM N ops (upd ρ d q) ⟨some dd,.load tt xx,tyy,poo,aff,gg⟩=true:=by exact λ_=>rfl)(u:Nat.blt dd N=true:=by exact rfl):RL P N ops Q (⟨some d,.indexAddr t x y,ty,pos,af,g⟩::⟨some dd,.load tt xx,tyy,poo,aff,gg⟩::rest) ρ w:=by
 obtain⟨b,o,c,cs,q,A,B,C,f⟩:=yQ k h;obtain rfl:=hc _ _ _ A;rw [p]at f;refine aF hw hd (xG hu hs (hx.trans q) hy (zY h).1 (zY h).2.1 rfl rfl) (aF (hv _) u (yH m (s _) (Cells.get f (i:=0) rfl)) ?_);exact n b o (H.fz (.at b (o+j.toNat*1) [z]) ⟨B,C,f⟩)
theorem cAz {V:Value}{R:World->Prop}(he:Go.OB.Enters P f)(hc:Calls P f vs.toArray w λe a=>e= .returned V/\R a)(n: ∀a,R a->RL P N ops Q rest (upd ρ d V) a)(ha:args.toList.map (ev ρ)=vs:=by exact rfl)(hw:fM N ops ρ ⟨some d,.call {callee:= .value (.func f),args:=args,argTypes:=at_},ty,pos,af,g⟩=true:=by exact rfl)(b:Nat.blt d N=true:=by exact rfl):RL P N ops Q (⟨some d,.call {callee:= .value (.func f),args:=args,argTypes:=at_},ty,pos,af,g⟩::rest) ρ w:=xC hw b (yR he ha) hc λ_ _ ⟨e,q⟩=>⟨_,e,n _ q⟩
theorem cAa {V:A->Value}{R:A->World->Prop}(he:Go.OB.Enters P f)(hc:Calls P f vs.toArray w λe b=> ∃a,e= .returned (V a)/\R a b)(n: ∀a b,R a b->RL P N ops Q rest (upd ρ d (V a)) b)(ha:args.toList.map (ev ρ)=vs:=by exact rfl)(hw:fM N ops ρ ⟨some d,.call {callee:= .value (.func f),args:=args,argTypes:=at_},ty,pos,af,g⟩=true:=by exact rfl)(c:Nat.blt d N=true:=by exact rfl):RL P N ops Q (⟨some d,.call {callee:= .value (.func f),args:=args,argTypes:=at_},ty,pos,af,g⟩::rest) ρ w:=xC hw c (yR he ha) hc λ_ _ ⟨a,e,q⟩=>⟨_,e,n a _ q⟩
theorem cAb {V:A->B->Value}{R:A->B->World->Prop}(he:Go.OB.Enters P f)(hc:Calls P f vs.toArray w λe c=> ∃a b,e= .returned (V a b)/\R a b c)(n: ∀a b c,R a b c->RL P N ops Q rest (upd ρ d (V a b)) c)(ha:args.toList.map (ev ρ)=vs:=by exact rfl)(hw:fM N ops ρ ⟨some d,.call {callee:= .value (.func f),args:=args,argTypes:=at_},ty,pos,af,g⟩=true:=by exact rfl)(h:Nat.blt d N=true:=by exact rfl):RL P N ops Q (⟨some d,.call {callee:= .value (.func f),args:=args,argTypes:=at_},ty,pos,af,g⟩::rest) ρ w:=xC hw h (yR he ha) hc λ_ _ ⟨a,b,e,q⟩=>⟨_,e,n a b _ q⟩
theorem cAc {V:A->B->C->Value}{R:A->B->C->World->Prop}(he:Go.OB.Enters P f)(hc:Calls P f vs.toArray w λe h=> ∃a b c,e= .returned (V a b c)/\R a b c h)(n: ∀a b c h,R a b c h->RL P N ops Q rest (upd ρ d (V a b c)) h)(ha:args.toList.map (ev ρ)=vs:=by exact rfl)(hw:fM N ops ρ ⟨some d,.call {callee:= .value (.func f),args:=args,argTypes:=at_},ty,pos,af,g⟩=true:=by exact rfl)(i:Nat.blt d N=true:=by exact rfl):RL P N ops Q (⟨some d,.call {callee:= .value (.func f),args:=args,argTypes:=at_},ty,pos,af,g⟩::rest) ρ w:=xC hw i (yR he ha) hc λ_ _ ⟨a,b,c,e,q⟩=>⟨_,e,n a b c _ q⟩
theorem cAd {V:A->B->C->D->Value}{R:A->B->C->D->World->Prop}(he:Go.OB.Enters P f)(hc:Calls P f vs.toArray w λe h=> ∃a b c z,e= .returned (V a b c z)/\R a b c z h)(n: ∀a b c z h,R a b c z h->RL P N ops Q rest (upd ρ d (V a b c z)) h)(ha:args.toList.map (ev ρ)=vs:=by exact rfl)(hw:fM N ops ρ ⟨some d,.call {callee:= .value (.func f),args:=args,argTypes:=at_},ty,pos,af,g⟩=true:=by exact rfl)(i:Nat.blt d N=true:=by exact rfl):RL P N ops Q (⟨some d,.call {callee:= .value (.func f),args:=args,argTypes:=at_},ty,pos,af,g⟩::rest) ρ w:=xC hw i (yR he ha) hc λ_ _ ⟨a,b,c,z,e,q⟩=>⟨_,e,n a b c z _ q⟩
abbrev KOne (rr:Rp α)(f:α->Value):Prop:=(∀F w c x,rr.rd F w c x↔c=[f x])/\rr.sz=1/\ ∀x,(f x).cells= #[f x]
theorem kStr:KOne Rp.str (λs=> .string (bs s)):=⟨λ_ _ _ _=>Iff.rfl,rfl,λ_=>rfl⟩
theorem aUl:KOne (Rp.int .i64) (.int .i64):=⟨λ_ _ _ _=>Iff.rfl,rfl,λ_=>rfl⟩
theorem kByt:KOne (Rp.int .u8) (.int .u8):=⟨λ_ _ _ _=>Iff.rfl,rfl,λ_=>rfl⟩
theorem ll {rr:Rp α}{f:α->Value}(k:KOne rr f){len bytes:Nat}{zs:List Value}{parts:Array (Nat×Operand)}(xl:List α)(hu:P.underlying t=some (.slice e))(he:El P e rr.sz bytes zs)(H:Hd O wo w S l)(hn:xl.length=len:=by exact rfl)(hp:Nat.blt 0 len=true:=by exact rfl)(hs:Nat.ble len 16777216=true:=by exact rfl)(hi:parts.toList.map Prod.fst=List.range len:=by exact rfl)(hv:parts.toList.map (λp=>ev ρ p.2)=xl.map f:=by exact rfl): ∃v b,Do P ⟨some d,.buildSlice t len parts,ty,pos,af,g⟩ ρ w v b/\fJ w b/\Hd O wo b S (l++[.own rr v e xl]):=by
 obtain⟨hl,a,hc⟩:=k;have j: ∀xl:List α,aYh 1 (xl.map f):=λxl=>by
  induction xl with
  |nil=>exact True.intro
  |cons x xl ih=>exact⟨by rw [hc];rfl,ih⟩
 have m: ∀xl:List α,rows rr (frees O l) w (xl.map f) xl:=λxl=>by
  induction xl with
  |nil=>rfl
  |cons x xl ih=>exact⟨[f x],_,rfl,(hl _ _ _ _).2 rfl,ih⟩
 have n:(xl.map f).flatMap (λv=>v.cells.toList)=xl.map f:=by
  clear hn hv
  induction xl with
  |nil=>rfl
  |cons x xl ih=>rw [List.map_cons,List.flatMap_cons,ih,hc];rfl
 have c:len*rr.sz<=16777216:=by rw [a,Nat.mul_one];exact Nat.le_of_ble_eq_true hs
 have h:0<len*rr.sz:=by rw [a,Nat.mul_one];exact Nat.le_of_ble_eq_true hp
 have i:jC rr.sz len zs (parts.toList.map λp=>(p.1,ev ρ p.2))=some (xl.map f):=aY (by rw [a];decide) hi hv (by rw [a];exact j xl) n;exact aEm (Lx_bs hu he c h hn i H (m xl)) (aEv hu he c h i)
theorem snd3 {R Y Z:Value->World->Prop}(h: ∃v c,R v c/\Y v c/\Z v c): ∃v c,R v c/\Z v c:=let ⟨v,c,a,_,b⟩:=h;⟨v,c,a,b⟩
theorem kl {rr:Rp α}{f:α->Value}(k:KOne rr f){len bytes:Nat}{zs:List Value}{parts:Array (Nat×Operand)}(xl:List α)(hu:P.underlying t=some (.slice e))(he:El P e rr.sz bytes zs)(H:Hd O wo w S l)(hn:xl.length=len:=by exact rfl)(hp:Nat.blt 0 len=true:=by exact rfl)(hs:Nat.ble len 16777216=true:=by exact rfl)(hi:parts.toList.map Prod.fst=List.range len:=by exact rfl)(hv:parts.toList.map (λp=>ev ρ p.2)=xl.map f:=by exact rfl): ∃v a,Do P ⟨some d,.buildSlice t len parts,ty,pos,af,g⟩ ρ w v a/\Hd O wo a S (l++[.own rr v e xl]):=snd3 (ll k xl hu he H hn hp hs hi hv)
theorem lOne (rr:Rp α)(x:α)(cs:List Value){bytes:Nat}{zs:List Value}{q:Operand}(hu:P.underlying t=some (.slice e))(he:El P e rr.sz bytes zs)(hr:rr.rd (frees O l) w cs x)(H:Hd O wo w S l)(a:cs.length=rr.sz:=by exact rfl)(c:Nat.blt 0 cs.length=true:=by exact rfl)(j:Nat.ble cs.length 16777216=true:=by exact rfl)(hv:ev ρ q= .agg cs.toArray:=by exact rfl): ∃v b,Do P ⟨some d,.buildSlice t 1 #[(0,q)],ty,pos,af,g⟩ ρ w v b/\fJ w b/\Hd O wo b S (l++[.own rr v e [x]]):=by
 have f:1*rr.sz<=16777216:=by rw [<-a,Nat.one_mul];exact Nat.le_of_ble_eq_true j
 have h:0<1*rr.sz:=by rw [<-a,Nat.one_mul];exact Nat.le_of_ble_eq_true c
 have i:jC rr.sz 1 zs ((#[(0,q)]:Array (Nat×Operand)).toList.map λp=>(p.1,ev ρ p.2))=some cs:=aY (vs:=[.agg cs.toArray]) (by rw [<-a];exact Nat.le_of_ble_eq_true c) rfl (by simp [hv]) ⟨by rw [<-a];simp [Value.cells],T1⟩ (by simp [Value.cells]);exact aEm (Lx_bs hu he f h rfl i H ⟨cs,[],by simp,hr,rfl⟩) (aEv hu he f h i)
theorem sG (rr:Rp α)(x:α)(cs:List Value){bytes:Nat}{zs:List Value}{q:Operand}(hu:P.underlying t=some (.slice e))(he:El P e rr.sz bytes zs)(hr:rr.rd (frees O l) w cs x)(H:Hd O wo w S l)(b:cs.length=rr.sz:=by exact rfl)(c:Nat.blt 0 cs.length=true:=by exact rfl)(f:Nat.ble cs.length 16777216=true:=by exact rfl)(hv:ev ρ q= .agg cs.toArray:=by exact rfl): ∃v a,Do P ⟨some d,.buildSlice t 1 #[(0,q)],ty,pos,af,g⟩ ρ w v a/\Hd O wo a S (l++[.own rr v e [x]]):=snd3 (lOne rr x cs hu he hr H b c f hv)
theorem Xu {κ:List MxM.Kd}{K:MxM.Mm->Env->World->Prop}{k:Nat}{M:MxM.Mm}{σ Si:List Nat}{vo:World}{R:World->World->Prop}(h: ∀b,fJ w b-> ∃a,DoU P ⟨none,op,ty,pos,af,g⟩ ρ b a/\R b a)(n: ∀b a,fJ w b->R b a->MxM.XL P (λa=>Only Si vo a) N ops κ K none σ rest ρ a)(ho: ∀b a,R b a->Only Si vo a:=by exact λ_ _ h=>h.only)(hk:MxM.kdOf κ k= .eff:=by exact rfl)(hw:fM N ops ρ ⟨none,op,ty,pos,af,g⟩=true:=by exact rfl):MxM.XL P (λa=>Only Si vo a) N ops κ K M (k::σ) (⟨none,op,ty,pos,af,g⟩::rest) ρ w:=MxM.XL_exU oS hk hw h λ_ _ s q=>⟨ho _ _ q,n _ _ s q⟩
theorem Xe {κ:List MxM.Kd}{K:MxM.Mm->Env->World->Prop}{k:Nat}{M:MxM.Mm}{σ Si:List Nat}{vo:World}{R:World->Value->World->Prop}(h: ∀b,fJ w b-> ∃v a,Do P ⟨some d,op,ty,pos,af,g⟩ ρ b v a/\R b v a)(n: ∀b v a,fJ w b->R b v a->MxM.XL P (λa=>Only Si vo a) N ops κ K none σ rest (upd ρ d v) a)(ho: ∀b v a,R b v a->Only Si vo a:=by exact λ_ _ _ h=>h.only)(hk:MxM.kdOf κ k= .eff:=by exact rfl)(hw:fM N ops ρ ⟨some d,op,ty,pos,af,g⟩=true:=by exact rfl)(hd:Nat.blt d N=true:=by exact rfl):MxM.XL P (λa=>Only Si vo a) N ops κ K M (k::σ) (⟨some d,op,ty,pos,af,g⟩::rest) ρ w:=MxM.XL_ex oS hk hw hd h λ_ _ _ s q=>⟨ho _ _ _ q,n _ _ _ s q⟩
end
abbrev Cl (f:Nat)(a:List Value)(w:World)(R:Ending->World->Prop):Prop:=Calls Tryz.prog f a.toArray w R
abbrev Rt (f:Nat)(a:List Value)(v:Value)(w:World)(O S:List Nat)(L:List Th):Prop:=Cl f a w λe h=>e= .returned v/\Hd O w h S L
abbrev i6 (n:Int):Value:= .int .i64 n
abbrev sb (s:Str):Value:= .string (bs s)
abbrev f1 {α:Type}(r:Rp α)(v:Value)(l:List α):Th:= .fz (.sl r v l)
theorem Hbc {O S:List Nat}{a w:World}{l:List Th}{b:Nat}{T:TypeId}{cs:List Value}(H:Hd O a w S l)(i:Nat)(h:l[i]? =some (.blk b cs T)):Cells w ⟨b,0,none⟩ cs:=Blk.cells (H.V h)
theorem Hbg {O S:List Nat}{a w:World}{l:List Th}{b:Nat}{T:TypeId}{cs:List Value}{v:Value}(H:Hd O a w S l)(i j:Nat)(h:l[i]? =some (.blk b cs T))(c:cs[j]? =some v):w.cell? ⟨b,0+j,none⟩=some v:=Cells.get (Blk.cells (H.V h)) c
theorem XP {P:Program}{I:World->Prop}{N:Nat}{ops:Array Oper}{κ:List MxM.Kd}{K:MxM.Mm->Env->World->Prop}{k:Nat}{M:MxM.Mm}{σ:List Nat}{rest:List Oper}{ρ:Env}{w:World}{d:Nat}{ty:TypeId}{pos:String}{af:Array Edge}{g:Option (Nat×Bool)}{v:Value}{op:Op}(h: ∀a,I a->Do P ⟨some d,op,ty,pos,af,g⟩ ρ a v a)(n:MxM.XL P I N ops κ K M σ rest (upd ρ d v) w)(hk:MxM.kdOf κ k= .pure:=by exact rfl)(hw:fM N ops ρ ⟨some d,op,ty,pos,af,g⟩=true:=by exact rfl)(hd:Nat.blt d N=true:=by exact rfl):MxM.XL P I N ops κ K M (k::σ) (⟨some d,op,ty,pos,af,g⟩::rest) ρ w:=MxM.XL_pure hk hw hd h n
theorem XO {P:Program}{I:World->Prop}{N:Nat}{ops:Array Oper}{κ:List MxM.Kd}{K:MxM.Mm->Env->World->Prop}{k:Nat}{M:MxM.Mm}{σ:List Nat}{rest:List Oper}{ρ:Env}{w:World}{d:Nat}{ty:TypeId}{pos:String}{af:Array Edge}{g:Option (Nat×Bool)}{op:Op}(n:MxM.XL P I N ops κ K M σ rest (upd ρ d undef) w)(hk:MxM.kdOf κ k= .pure:=by exact rfl)(hw:fM N ops ρ ⟨some d,op,ty,pos,af,g⟩=false:=by exact rfl)(hd:Nat.blt d N=true:=by exact rfl):MxM.XL P I N ops κ K M (k::σ) (⟨some d,op,ty,pos,af,g⟩::rest) ρ w:=MxM.XL_offp hk hw hd n
theorem XM {P:Program}{I:World->Prop}{N:Nat}{ops:Array Oper}{κ:List MxM.Kd}{K:MxM.Mm->Env->World->Prop}{k:Nat}{M:MxM.Mm}{σ:List Nat}{rest:List Oper}{ρ:Env}{w:World}{d:Nat}{ty:TypeId}{pos:String}{af:Array Edge}{g:Option (Nat×Bool)}{x:Operand}(v:Value)(n:MxM.XL P I N ops κ K M σ rest (upd ρ d v) w)(hx:ev ρ x=v:=by exact rfl)(hk:MxM.kdOf κ k= .pure:=by exact rfl)(hw:fM N ops ρ ⟨some d,.move x,ty,pos,af,g⟩=true:=by exact rfl)(hd:Nat.blt d N=true:=by exact rfl):MxM.XL P I N ops κ K M (k::σ) (⟨some d,.move x,ty,pos,af,g⟩::rest) ρ w:=MxM.XL_pure hk hw hd (λ_ _=>aA hx) n
theorem XR {P:Program}{c:World}{e:List Nat}{N:Nat}{ops:Array Oper}{κ:List MxM.Kd}{K:MxM.Mm->Env->World->Prop}{k:Nat}{M:MxM.Mm}{σ:List Nat}{rest:List Oper}{ρ:Env}{w:World}{d:Nat}{ty:TypeId}{pos:String}{af:Array Edge}{g:Option (Nat×Bool)}{t:TypeId}{x:Operand}{O S:List Nat}{f:World}{l:List Th}{b:Nat}{T:TypeId}{cs:List Value}{v:Value}(o:aAo P t)(H:Hd O f w S l)(i j:Nat)(h:l[i]? =some (.blk b cs T))(m:cs[j]? =some v)(n:MxM.XL P (λa=>Only e c a) N ops κ K M σ rest (upd ρ d v) w)(hx:ev ρ x= .pointer (some ⟨b,0+j,none⟩):=by exact rfl)(hk:MxM.kdOf κ k= .read:=by exact rfl)(hw:fM N ops ρ ⟨some d,.load t x,ty,pos,af,g⟩=true:=by exact rfl)(hd:Nat.blt d N=true:=by exact rfl):MxM.XL P (λa=>Only e c a) N ops κ K M (k::σ) (⟨some d,.load t x,ty,pos,af,g⟩::rest) ρ w:=MxM.yG oS hk hw hd (λ_ p=>yH o hx (Hbg (H.Z p) i j h m)) n
theorem Ld {P:Program}{N:Nat}{ops:Array Oper}{Q:Exit->Env->World->Prop}{rest:List Oper}{ρ:Env}{w:World}{d:Nat}{t ty:TypeId}{x:Operand}{pos:String}{af:Array Edge}{g:Option (Nat×Bool)}{O S:List Nat}{a:World}{l:List Th}{b:Nat}{T:TypeId}{cs:List Value}{v:Value}(o:aAo P t)(H:Hd O a w S l)(i j:Nat)(h:l[i]? =some (.blk b cs T))(c:cs[j]? =some v)(k:RL P N ops Q rest (upd ρ d v) w)(hx:ev ρ x= .pointer (some ⟨b,0+j,none⟩):=by exact rfl)(hw:fM N ops ρ ⟨some d,.load t x,ty,pos,af,g⟩=true:=by exact rfl)(hd:Nat.blt d N=true:=by exact rfl):RL P N ops Q (⟨some d,.load t x,ty,pos,af,g⟩::rest) ρ w:=zJ (yH o hx (Hbg H i j h c)) k hw hd
theorem fD {f:FuncId}{fn:Func}(h:Tryz.prog.funcs[f]? =some fn)(a:fn.body.isSome=true:=by exact rfl)(b:(fn.name== "runtime.NumGoroutine")=false:=by kernel_rfl):Go.OB.Enters Tryz.prog f:=⟨_,h,a,b⟩
theorem u2:Tryz.prog.underlying 2=some (.int .i64):=Tryz.underlying2
theorem u3:Tryz.prog.underlying 3=some (.int .i64):=Tryz.underlying3
theorem u4:Tryz.prog.underlying 4=some .bool:=Tryz.underlying4
theorem u5:Tryz.prog.underlying 5=some (.int .u8):=Tryz.underlying5
theorem u9:Tryz.prog.underlying 9=some .string:=Tryz.underlying9
theorem u22:Tryz.prog.underlying 22=some (.slice 128):=Tryz.underlying22
theorem u25:Tryz.prog.underlying 25=some (.slice 56):=Tryz.underlying25
theorem u26:Tryz.prog.underlying 26=some (.slice 116):=Tryz.underlying26
theorem u29:Tryz.prog.underlying 29=some (.slice 9):=Tryz.underlying29
theorem u31:Tryz.prog.underlying 31=some (.slice 98):=Tryz.underlying31
theorem u48:Tryz.prog.underlying 48=some (.slice 96):=Tryz.underlying48
theorem u50:Tryz.prog.underlying 50=some (.slice 3):=Tryz.underlying50
theorem u54:Tryz.prog.underlying 54=some (.slice 146):=Tryz.underlying54
theorem u58:Tryz.prog.underlying 58=some (.slice 5):=Tryz.underlying58
theorem u72:Tryz.prog.underlying 72=some (.slice 207):=Tryz.underlying72
theorem u73:Tryz.prog.underlying 73=some (.slice 211):=Tryz.underlying73
theorem u86:Tryz.prog.underlying 86=some (.slice 166):=Tryz.underlying86
theorem aEk:Tryz.prog.underlying 111=some (.int .u16):=Tryz.underlying111
theorem nS:Tryz.prog.underlying 113=some (.array 64 111):=Tryz.underlying113
theorem aPn:Tryz.prog.underlying 114=some (.array 64 3):=Tryz.underlying114
theorem sZ:Tryz.prog.underlying 126=some (.slice 251):=Tryz.underlying126
theorem u131:Tryz.prog.underlying 131=some (.slice 137):=Tryz.underlying131
theorem aCv:Tryz.prog.underlying 135=some (.slice 139):=Tryz.underlying135
theorem aEx:Tryz.prog.underlying 144=some (.slice 197):=Tryz.underlying144
theorem aLu:Tryz.prog.underlying 191=some (.int .u64):=Tryz.underlying191
theorem u194:Tryz.prog.underlying 194=some (.map 299 4):=Tryz.underlying194
theorem sO:Tryz.prog.underlying 203=some (.slice 205):=Tryz.underlying203
theorem u231:Tryz.prog.underlying 231=some (.map 282 3):=Tryz.underlying231
theorem u238:Tryz.prog.underlying 238=some (.array 16 116):=Tryz.underlying238
theorem u250:Tryz.prog.underlying 250=some (.int .u64):=Tryz.underlying250
theorem tZ:Tryz.prog.underlying 254=some (.map 3 3):=Tryz.underlying254
theorem u258:Tryz.prog.underlying 258=some (.array 2 3):=Tryz.underlying258
theorem u270:Tryz.prog.underlying 270=some (.map 9 4):=Tryz.underlying270
theorem u279:Tryz.prog.underlying 279=some (.slice 282):=Tryz.underlying279
theorem aHr:Tryz.prog.underlying 300=some (.slice 328):=Tryz.underlying300
theorem u322:Tryz.prog.underlying 322=some (.array 4 111):=Tryz.underlying322
theorem u331:Tryz.prog.underlying 331=some (.array 7 9):=Tryz.underlying331
theorem u345:Tryz.prog.underlying 345=some (.array 4 3):=Tryz.underlying345
theorem aHt:Tryz.prog.underlying 360=some (.map 3 359):=Tryz.underlying360
theorem fo154_2:aCd Tryz.prog 154 2=some (2,3):=by kernel_rfl
theorem fo154_3:aCd Tryz.prog 154 3=some (3,9):=by kernel_rfl
theorem fo342_3:aCd Tryz.prog 342 3=some (3,340):=by kernel_rfl
theorem ui305:Tryz.prog.underlying 305=some (.interface (Tryz.prog.methodsAt 305)):=by kernel_rfl
abbrev szZ (a b:Nat):Prop:=Sz Tryz.prog a b
theorem szO {a b:Nat}(h:Sz Tryz.prog a b:=by unfold Sz;kernel_rfl):szZ a b:=h
theorem sz3:szZ 3 1:=szO
theorem sz4:szZ 4 1:=szO
theorem sz9:szZ 9 1:=szO
theorem aBq:szZ 24 2:=szO
theorem aGk:szZ 28 4:=szO
theorem sz29:szZ 29 1:=szO
theorem aDi:szZ 56 4:=szO
theorem sz58:szZ 58 1:=szO
theorem sz72:szZ 72 1:=szO
theorem sz73:szZ 73 1:=szO
theorem uP:szZ 75 3:=szO
theorem sz85:szZ 85 1:=szO
theorem sz86:szZ 86 1:=szO
theorem rQ:szZ 88 2:=szO
theorem aBj:szZ 96 5:=szO
theorem uA:szZ 98 2:=szO
theorem aN:szZ 111 1:=szO
theorem aBg:szZ 113 64:=szO
theorem sz114:szZ 114 64:=szO
theorem dF:szZ 116 132:=szO
theorem fO:szZ 128 8:=szO
theorem sz135:szZ 135 1:=szO
theorem kQ:szZ 137 4:=szO
theorem rV:szZ 139 4:=szO
theorem aMu:szZ 146 4:=szO
theorem aNa:szZ 154 4:=szO
theorem sz158:szZ 158 2:=szO
theorem sQ:szZ 197 4:=szO
theorem sz203:szZ 203 1:=szO
theorem fH:szZ 205 7:=szO
theorem aFg:szZ 207 9:=szO
theorem nC:szZ 211 8:=szO
theorem sz238:szZ 238 2112:=szO
theorem aU:szZ 251 4:=szO
theorem sz270:szZ 270 1:=szO
theorem aNp:szZ 282 3:=szO
theorem aYd:szZ 299 3:=szO
theorem sz329:szZ 329 1:=szO
theorem mJ:szZ 333 7:=szO
theorem kU:szZ 342 4:=szO
theorem sz358:szZ 358 1:=szO
abbrev qV (a:Nat):Prop:=aAo Tryz.prog a
theorem rG {a:Nat}(h:aAo Tryz.prog a:=by unfold aAo;kernel_rfl):qV a:=h
theorem gW:qV 3:=rG
theorem vM:qV 4:=rG
theorem dE:qV 9:=rG
theorem pJ:qV 22:=rG
theorem aBz:qV 25:=rG
theorem wY:qV 26:=rG
theorem jT:qV 29:=rG
theorem aBy:qV 31:=rG
theorem one32:qV 32:=rG
theorem aXu:qV 48:=rG
theorem aRt:qV 54:=rG
theorem one58:qV 58:=rG
theorem aRv:qV 72:=rG
theorem aBf:qV 73:=rG
theorem one85:qV 85:=rG
theorem one86:qV 86:=rG
theorem dL:qV 111:=rG
theorem pV:qV 126:=rG
theorem uQ:qV 135:=rG
theorem sN:qV 144:=rG
theorem kR:qV 152:=rG
theorem aDu:qV 203:=rG
theorem aTv:qV 270:=rG
theorem one329:qV 329:=rG
theorem one340:qV 340:=rG
theorem aVv:qV 358:=rG
abbrev qP (a:Nat):Prop:=Agg Tryz.prog a
theorem rU {a:Nat}(h:Agg Tryz.prog a:=by unfold Agg;kernel_rfl):qP a:=h
theorem rH:qP 24:=rU
theorem aAf:qP 28:=rU
theorem aQf:qP 56:=rU
theorem rP:qP 75:=rU
theorem wQ:qP 88:=rU
theorem aFf:qP 96:=rU
theorem aBh:qP 98:=rU
theorem sF:qP 113:=rU
theorem agg114:qP 114:=rU
theorem sD:qP 116:=rU
theorem eP:qP 128:=rU
theorem uN:qP 137:=rU
theorem aFt:qP 139:=rU
theorem aUw:qP 146:=rU
theorem aUv:qP 154:=rU
theorem aGi:qP 197:=rU
theorem fZ:qP 205:=rU
theorem aOf:qP 207:=rU
theorem aDv:qP 211:=rU
theorem agg238:qP 238:=rU
theorem uM:qP 251:=rU
theorem aOe:qP 282:=rU
theorem aTx:qP 299:=rU
theorem uH:qP 333:=rU
theorem qK:qP 342:=rU
theorem zero3:Go.OB.Zero Tryz.prog 3 ([i6 0]):=by unfold Go.OB.Zero;kernel_rfl
theorem zero4:Go.OB.Zero Tryz.prog 4 ([vb false]):=by unfold Go.OB.Zero;kernel_rfl
theorem zero29:Go.OB.Zero Tryz.prog 29 ([.slice none 0 0]):=by unfold Go.OB.Zero;kernel_rfl
theorem aUu:Go.OB.Zero Tryz.prog 56 ([.string (bs []),.string (bs []),.slice none 0 0,i6 0]):=by unfold Go.OB.Zero;kernel_rfl
theorem aOk:Go.OB.Zero Tryz.prog 75 ([.slice none 0 0,.slice none 0 0,.slice none 0 0]):=by unfold Go.OB.Zero;kernel_rfl
theorem zero85:Go.OB.Zero Tryz.prog 85 ([.nilFunc]):=by unfold Go.OB.Zero;kernel_rfl
theorem aDy:Go.OB.Zero Tryz.prog 88 ([i6 0,.slice none 0 0]):=by unfold Go.OB.Zero;kernel_rfl
theorem aVe:Go.OB.Zero Tryz.prog 96 ([.string (bs []),i6 0,i6 0,i6 0,.slice none 0 0]):=by unfold Go.OB.Zero;kernel_rfl
theorem zero98:Go.OB.Zero Tryz.prog 98 ([i6 0,i6 0]):=by unfold Go.OB.Zero;kernel_rfl
theorem aOb:Go.OB.Zero Tryz.prog 116 ([i6 0,.int .u16 0,.int .u16 0,.int .u16 0,.int .u16 0,.int .u16 0,.int .u16 0,.int .u16 0,.int .u16 0,.int .u16 0,.int .u16 0,.int .u16 0,.int .u16 0,.int .u16 0,.int .u16 0,.int .u16 0,.int .u16 0,.int .u16 0,.int .u16 0,.int .u16 0,.int .u16 0,.int .u16 0,.int .u16 0,.int .u16 0,.int .u16 0,.int .u16 0,.int .u16 0,.int .u16 0,.int .u16 0,.int .u16 0,.int .u16 0,.int .u16 0,.int .u16 0,.int .u16 0,.int .u16 0,.int .u16 0,.int .u16 0,.int .u16 0,.int .u16 0,.int .u16 0,.int .u16 0,.int .u16 0,.int .u16 0,.int .u16 0,.int .u16 0,.int .u16 0,.int .u16 0,.int .u16 0,.int .u16 0,.int .u16 0,.int .u16 0,.int .u16 0,.int .u16 0,.int .u16 0,.int .u16 0,.int .u16 0,.int .u16 0,.int .u16 0,.int .u16 0,.int .u16 0,.int .u16 0,.int .u16 0,.int .u16 0,.int .u16 0,.int .u16 0,i6 0,i6 0,i6 0,i6 0,i6 0,i6 0,i6 0,i6 0,i6 0,i6 0,i6 0,i6 0,i6 0,i6 0,i6 0,i6 0,i6 0,i6 0,i6 0,i6 0,i6 0,i6 0,i6 0,i6 0,i6 0,i6 0,i6 0,i6 0,i6 0,i6 0,i6 0,i6 0,i6 0,i6 0,i6 0,i6 0,i6 0,i6 0,i6 0,i6 0,i6 0,i6 0,i6 0,i6 0,i6 0,i6 0,i6 0,i6 0,i6 0,i6 0,i6 0,i6 0,i6 0,i6 0,i6 0,i6 0,i6 0,i6 0,i6 0,i6 0,i6 0,i6 0,i6 0,i6 0,vb false,i6 0,vb false]):=by unfold Go.OB.Zero;kernel_rfl
theorem nK:Go.OB.Zero Tryz.prog 128 ([.string (bs []),i6 0,.slice none 0 0,i6 0,i6 0,i6 0,i6 0,.slice none 0 0]):=by unfold Go.OB.Zero;kernel_rfl
theorem aAz:Go.OB.Zero Tryz.prog 137 ([i6 0,i6 0,i6 0,.slice none 0 0]):=by unfold Go.OB.Zero;kernel_rfl
theorem aEh:Go.OB.Zero Tryz.prog 139 ([i6 0,i6 0,i6 0,i6 0]):=by unfold Go.OB.Zero;kernel_rfl
theorem zero146:Go.OB.Zero Tryz.prog 146 ([i6 0,.slice none 0 0,i6 0,i6 0]):=by unfold Go.OB.Zero;kernel_rfl
theorem aWb:Go.OB.Zero Tryz.prog 154 ([i6 0,i6 0,i6 0,.string (bs [])]):=by unfold Go.OB.Zero;kernel_rfl
theorem zero158:Go.OB.Zero Tryz.prog 158 ([i6 0,i6 0]):=by unfold Go.OB.Zero;kernel_rfl
theorem aIb:Go.OB.Zero Tryz.prog 197 ([i6 0,i6 0,i6 0,i6 0]):=by unfold Go.OB.Zero;kernel_rfl
theorem kJ:Go.OB.Zero Tryz.prog 205 ([i6 0,.string (bs []),.string (bs []),i6 0,i6 0,i6 0,.slice none 0 0]):=by unfold Go.OB.Zero;kernel_rfl
theorem aPp:Go.OB.Zero Tryz.prog 207 ([.string (bs []),.string (bs []),i6 0,.string (bs []),.string (bs []),i6 0,i6 0,i6 0,.slice none 0 0]):=by unfold Go.OB.Zero;kernel_rfl
theorem aIa:Go.OB.Zero Tryz.prog 211 ([.string (bs []),i6 0,.string (bs []),.string (bs []),i6 0,i6 0,i6 0,.slice none 0 0]):=by unfold Go.OB.Zero;kernel_rfl
theorem zero238:Go.OB.Zero Tryz.prog 238 ((Fl.arr 16 qX).f (Arr.rep 16 (gV.mk 0 (Arr.rep 64 0:Arr 64 Int) (Arr.rep 64 0:Arr 64 Int) false 0 false):Arr 16 gV)):=by unfold Go.OB.Zero;kernel_rfl
theorem tK:Go.OB.Zero Tryz.prog 251 ([i6 0,i6 0,i6 0,i6 0]):=by unfold Go.OB.Zero;kernel_rfl
theorem zero270:Go.OB.Zero Tryz.prog 270 ([.map none]):=by unfold Go.OB.Zero;kernel_rfl
theorem zero282:Go.OB.Zero Tryz.prog 282 ([i6 0,i6 0,i6 0]):=by unfold Go.OB.Zero;kernel_rfl
theorem zero299:Go.OB.Zero Tryz.prog 299 ((Fl.arr 3 (Fl.int .i64)).f (Arr.rep 3 0:Arr 3 Int)):=by unfold Go.OB.Zero;kernel_rfl
theorem zero329:Go.OB.Zero Tryz.prog 329 ([.nilFunc]):=by unfold Go.OB.Zero;kernel_rfl
theorem aWa:Go.OB.Zero Tryz.prog 333 ([vb false,vb false,vb false,vb false,vb false,i6 0,i6 0]):=by unfold Go.OB.Zero;kernel_rfl
theorem vT:Go.OB.Zero Tryz.prog 342 ([i6 0,i6 0,.nilFunc,.nilFunc]):=by unfold Go.OB.Zero;kernel_rfl
theorem zero358:Go.OB.Zero Tryz.prog 358 ([.nilFunc]):=by unfold Go.OB.Zero;kernel_rfl
theorem el3:El Tryz.prog 3 1 8 ([i6 0]):=⟨by kernel_rfl,by kernel_rfl,by kernel_rfl,by decide,by decide⟩
theorem el5:El Tryz.prog 5 1 1 ([.int .u8 0]):=⟨by kernel_rfl,by kernel_rfl,by kernel_rfl,by decide,by decide⟩
theorem el9:El Tryz.prog 9 1 16 ([.string (bs [])]):=⟨by kernel_rfl,by kernel_rfl,by kernel_rfl,by decide,by decide⟩
theorem el98:El Tryz.prog 98 2 16 ([i6 0,i6 0]):=⟨by kernel_rfl,by kernel_rfl,by kernel_rfl,by decide,by decide⟩
theorem el128:El Tryz.prog 128 8 104 ([.string (bs []),i6 0,.slice none 0 0,i6 0,i6 0,i6 0,i6 0,.slice none 0 0]):=⟨by kernel_rfl,by kernel_rfl,by kernel_rfl,by decide,by decide⟩
theorem aHc:El Tryz.prog 137 4 48 ([i6 0,i6 0,i6 0,.slice none 0 0]):=⟨by kernel_rfl,by kernel_rfl,by kernel_rfl,by decide,by decide⟩
theorem aQn:El Tryz.prog 139 4 32 ([i6 0,i6 0,i6 0,i6 0]):=⟨by kernel_rfl,by kernel_rfl,by kernel_rfl,by decide,by decide⟩
theorem aEj:El Tryz.prog 166 3 24 ([i6 0,i6 0,i6 0]):=⟨by kernel_rfl,by kernel_rfl,by kernel_rfl,by decide,by decide⟩
theorem aHd:El Tryz.prog 205 7 88 ([i6 0,.string (bs []),.string (bs []),i6 0,i6 0,i6 0,.slice none 0 0]):=⟨by kernel_rfl,by kernel_rfl,by kernel_rfl,by decide,by decide⟩
theorem el207:El Tryz.prog 207 9 120 ([.string (bs []),.string (bs []),i6 0,.string (bs []),.string (bs []),i6 0,i6 0,i6 0,.slice none 0 0]):=⟨by kernel_rfl,by kernel_rfl,by kernel_rfl,by decide,by decide⟩
theorem aQq:El Tryz.prog 211 8 104 ([.string (bs []),i6 0,.string (bs []),.string (bs []),i6 0,i6 0,i6 0,.slice none 0 0]):=⟨by kernel_rfl,by kernel_rfl,by kernel_rfl,by decide,by decide⟩
theorem el282:El Tryz.prog 282 3 24 ([i6 0,i6 0,i6 0]):=⟨by kernel_rfl,by kernel_rfl,by kernel_rfl,by decide,by decide⟩
theorem aDe:El Tryz.prog 328 2 16 ([i6 0,i6 0]):=⟨by kernel_rfl,by kernel_rfl,by kernel_rfl,by decide,by decide⟩
theorem bz60:Tryz.prog.built 60 []=some ([.slice none 0 0]).toArray:=by kernel_rfl
theorem bz75:Tryz.prog.built 75 []=some ([.slice none 0 0,.slice none 0 0,.slice none 0 0]).toArray:=by kernel_rfl
theorem bz88:Tryz.prog.built 88 []=some ([i6 0,.slice none 0 0]).toArray:=by kernel_rfl
theorem bz128:Tryz.prog.built 128 []=some ([.string (bs []),i6 0,.slice none 0 0,i6 0,i6 0,i6 0,i6 0,.slice none 0 0]).toArray:=by kernel_rfl
theorem bz333:Tryz.prog.built 333 []=some ([vb false,vb false,vb false,vb false,vb false,i6 0,i6 0]).toArray:=by kernel_rfl
theorem bt24_1 (a:Option Addr)(b c:Nat):Tryz.prog.built 24 [(1,.slice a b c)]=some [i6 0,.slice a b c].toArray:=by kernel_rfl
theorem bt88_0 (a:Int):Tryz.prog.built 88 [(0,i6 a)]=some [i6 a,.slice none 0 0].toArray:=by kernel_rfl
theorem aSd (a b:Int):Tryz.prog.built 98 [(0,i6 a),(1,i6 b)]=some [i6 a,i6 b].toArray:=by kernel_rfl
theorem aHj (a b c:Int):Tryz.prog.built 137 [(0,i6 a),(1,i6 b),(2,i6 c)]=some [i6 a,i6 b,i6 c,.slice none 0 0].toArray:=by kernel_rfl
theorem aDa (a b c d:Int):Tryz.prog.built 139 [(0,i6 a),(1,i6 b),(2,i6 c),(3,i6 d)]=some [i6 a,i6 b,i6 c,i6 d].toArray:=by kernel_rfl
theorem bt154_0_1 (a b:Int):Tryz.prog.built 154 [(0,i6 a),(1,i6 b)]=some [i6 a,i6 b,i6 0,.string (bs [])].toArray:=by kernel_rfl
theorem bt156_0 (a:Str):Tryz.prog.built 156 [(0,sb a)]=some [sb a,i6 0,i6 0,i6 0,i6 0,.string (bs []),.slice none 0 0,.slice none 0 0,.slice none 0 0].toArray:=by kernel_rfl
theorem aXg (a:Int):Tryz.prog.built 166 [(0,i6 a)]=some [i6 a,i6 0,i6 0].toArray:=by kernel_rfl
theorem aGz (a b c:Int):Tryz.prog.built 166 [(0,i6 a),(1,i6 b),(2,i6 c)]=some [i6 a,i6 b,i6 c].toArray:=by kernel_rfl
theorem aXy (a:Int):Tryz.prog.built 205 [(0,i6 a)]=some [i6 a,.string (bs []),.string (bs []),i6 0,i6 0,i6 0,.slice none 0 0].toArray:=by kernel_rfl
theorem aGn (a:Int)(b:Str):Tryz.prog.built 205 [(0,i6 a),(1,sb b)]=some [i6 a,sb b,.string (bs []),i6 0,i6 0,i6 0,.slice none 0 0].toArray:=by kernel_rfl
theorem bt205_0_4 (a b:Int):Tryz.prog.built 205 [(0,i6 a),(4,i6 b)]=some [i6 a,.string (bs []),.string (bs []),i6 0,i6 b,i6 0,.slice none 0 0].toArray:=by kernel_rfl
theorem aGw (a b:Int)(c:Option Addr)(d e:Nat):Tryz.prog.built 205 [(0,i6 a),(5,i6 b),(6,.slice c d e)]=some [i6 a,.string (bs []),.string (bs []),i6 0,i6 0,i6 b,.slice c d e].toArray:=by kernel_rfl
theorem aAk (a:Int)(b:Option Addr)(c d:Nat):Tryz.prog.built 205 [(0,i6 a),(6,.slice b c d)]=some [i6 a,.string (bs []),.string (bs []),i6 0,i6 0,i6 0,.slice b c d].toArray:=by kernel_rfl
theorem bt207_0_1 (a b:Str):Tryz.prog.built 207 [(0,sb a),(1,sb b)]=some [sb a,sb b,i6 0,.string (bs []),.string (bs []),i6 0,i6 0,i6 0,.slice none 0 0].toArray:=by kernel_rfl
theorem bt211_0 (a:Str):Tryz.prog.built 211 [(0,sb a)]=some [sb a,i6 0,.string (bs []),.string (bs []),i6 0,i6 0,i6 0,.slice none 0 0].toArray:=by kernel_rfl
theorem bt258_0_1 (a b:Int):Tryz.prog.built 258 [(0,i6 a),(1,i6 b)]=some [i6 a,i6 b].toArray:=by kernel_rfl
theorem aQz (a b c:Int):Tryz.prog.built 282 [(0,i6 a),(1,i6 b),(2,i6 c)]=some [i6 a,i6 b,i6 c].toArray:=by kernel_rfl
theorem aRq (a b c:Int):Tryz.prog.built 299 [(0,i6 a),(1,i6 b),(2,i6 c)]=some [i6 a,i6 b,i6 c].toArray:=by kernel_rfl
theorem aAe (a b:Int):Tryz.prog.built 328 [(0,i6 a),(1,i6 b)]=some [i6 a,i6 b].toArray:=by kernel_rfl
theorem bt333_0 (a:Bool):Tryz.prog.built 333 [(0,vb a)]=some [vb a,vb false,vb false,vb false,vb false,i6 0,i6 0].toArray:=by kernel_rfl
theorem aSn (a b c:Bool):Tryz.prog.built 333 [(0,vb a),(1,vb b),(2,vb c)]=some [vb a,vb b,vb c,vb false,vb false,i6 0,i6 0].toArray:=by kernel_rfl
theorem aRu (a b c:Bool):Tryz.prog.built 333 [(0,vb a),(2,vb b),(3,vb c)]=some [vb a,vb false,vb b,vb c,vb false,i6 0,i6 0].toArray:=by kernel_rfl
theorem aRc (a b c:Bool):Tryz.prog.built 333 [(0,vb a),(3,vb b),(4,vb c)]=some [vb a,vb false,vb false,vb b,vb c,i6 0,i6 0].toArray:=by kernel_rfl
theorem aLq (a b:Bool)(c d:Int):Tryz.prog.built 333 [(3,vb a),(4,vb b),(5,i6 c),(6,i6 d)]=some [vb false,vb false,vb false,vb a,vb b,i6 c,i6 d].toArray:=by kernel_rfl
theorem aRb (a:Bool)(b c:Int):Tryz.prog.built 333 [(4,vb a),(5,i6 b),(6,i6 c)]=some [vb false,vb false,vb false,vb false,vb a,i6 b,i6 c].toArray:=by kernel_rfl
theorem aFr (a b:Int):Tryz.prog.built 333 [(5,i6 a),(6,i6 b)]=some [vb false,vb false,vb false,vb false,vb false,i6 a,i6 b].toArray:=by kernel_rfl
theorem aLw (a b c d:Int):Tryz.prog.built 345 [(0,i6 a),(1,i6 b),(2,i6 c),(3,i6 d)]=some [i6 a,i6 b,i6 c,i6 d].toArray:=by kernel_rfl
abbrev gK (b:Nat):Value:= .pointer (some ⟨b,0,none⟩)
def FAt (t i m:Nat):Prop:= ∀{ρ:Env}{w:World}{d:Option Tmp}{x:Operand}{ty:TypeId}{pos:String}{af:Array Edge}{g:Option (Nat×Bool)}{b o:Nat} (_:ev ρ x= .pointer (some ⟨b,o,none⟩)),Do Tryz.prog ⟨d,.fieldAddr t x i,ty,pos,af,g⟩ ρ w (.pointer (some ⟨b,o+m,none⟩)) w
theorem faO {t i m:Nat}(n:Nat)(h:aLf Tryz.prog t i=some (m,some n):=by kernel_rfl)(hn:n≠0:=by decide):FAt t i m:=λhx=>aMf h hn hx
theorem aPd:FAt 24 0 0:=faO 1
theorem kP:FAt 24 1 1:=faO 1
theorem aBo:FAt 28 0 0:=faO 2
theorem vK:FAt 28 1 2:=faO 1
theorem qQ:FAt 28 2 3:=faO 1
theorem aFx:FAt 56 0 0:=faO 1
theorem aOs:FAt 56 1 1:=faO 1
theorem aJl:FAt 56 2 2:=faO 1
theorem fa56_3:FAt 56 3 3:=faO 1
theorem aLj:FAt 60 0 0:=faO 1
theorem aDw:FAt 75 0 0:=faO 1
theorem aDz:FAt 75 1 1:=faO 1
theorem qB:FAt 75 2 2:=faO 1
theorem aDr:FAt 88 1 1:=faO 1
theorem aGj:FAt 96 0 0:=faO 1
theorem aOd:FAt 96 2 2:=faO 1
theorem uY:FAt 96 4 4:=faO 1
theorem aAx:FAt 98 0 0:=faO 1
theorem aAw:FAt 98 1 1:=faO 1
theorem dU:FAt 116 0 0:=faO 1
theorem rC:FAt 116 1 1:=faO 64
theorem sW:FAt 116 2 65:=faO 64
theorem vW:FAt 116 3 129:=faO 1
theorem aIn:FAt 116 4 130:=faO 1
theorem aVy:FAt 116 5 131:=faO 1
theorem tV:FAt 128 0 0:=faO 1
theorem jQ:FAt 128 1 1:=faO 1
theorem jM:FAt 128 2 2:=faO 1
theorem aIz:FAt 128 3 3:=faO 1
theorem aCh:FAt 128 4 4:=faO 1
theorem mV:FAt 128 5 5:=faO 1
theorem qZ:FAt 128 6 6:=faO 1
theorem jK:FAt 128 7 7:=faO 1
theorem aXf:FAt 137 0 0:=faO 1
theorem fa137_1:FAt 137 1 1:=faO 1
theorem aWc:FAt 137 2 2:=faO 1
theorem mO:FAt 137 3 3:=faO 1
theorem aEr:FAt 139 0 0:=faO 1
theorem aCf:FAt 139 1 1:=faO 1
theorem aFn:FAt 139 2 2:=faO 1
theorem aCt:FAt 139 3 3:=faO 1
theorem aWn:FAt 146 0 0:=faO 1
theorem nO:FAt 146 1 1:=faO 1
theorem aIe:FAt 146 2 2:=faO 1
theorem aIy:FAt 146 3 3:=faO 1
theorem nI:FAt 154 0 0:=faO 1
theorem fa154_2:FAt 154 2 2:=faO 1
theorem aAs:FAt 154 3 3:=faO 1
theorem uB:FAt 156 0 0:=faO 1
theorem kM:FAt 156 1 1:=faO 1
theorem bH:FAt 156 2 2:=faO 4
theorem aCk:FAt 156 3 6:=faO 3
theorem fa158_0:FAt 158 0 0:=faO 1
theorem aXh:FAt 158 1 1:=faO 1
theorem vZ:FAt 197 0 0:=faO 1
theorem vS:FAt 197 1 1:=faO 1
theorem aEf:FAt 197 2 2:=faO 1
theorem aEs:FAt 197 3 3:=faO 1
theorem pX:FAt 205 0 0:=faO 1
theorem aAu:FAt 205 1 1:=faO 1
theorem aIv:FAt 205 2 2:=faO 1
theorem aIh:FAt 205 3 3:=faO 1
theorem aEn:FAt 205 4 4:=faO 1
theorem aIr:FAt 205 5 5:=faO 1
theorem vU:FAt 205 6 6:=faO 1
theorem fa207_0:FAt 207 0 0:=faO 1
theorem fa207_1:FAt 207 1 1:=faO 1
theorem aHy:FAt 207 2 2:=faO 7
theorem aAp:FAt 211 0 0:=faO 1
theorem aFh:FAt 211 1 1:=faO 7
theorem aCm:FAt 251 0 0:=faO 1
theorem aCl:FAt 251 1 1:=faO 1
theorem aCj:FAt 251 2 2:=faO 1
theorem aCi:FAt 251 3 3:=faO 1
theorem aYa:FAt 333 0 0:=faO 1
theorem aXz:FAt 333 1 1:=faO 1
theorem aYi:FAt 333 2 2:=faO 1
theorem aWh:FAt 333 3 3:=faO 1
theorem aYe:FAt 333 4 4:=faO 1
theorem fa333_5:FAt 333 5 5:=faO 1
theorem fa333_6:FAt 333 6 6:=faO 1
theorem eqf3:EqF Tryz.prog 3 (Fl.int .i64) 1:=EqF.int Tryz.underlying3
theorem eqf299:EqF Tryz.prog 299 (Fl.arr 3 (Fl.int .i64)) 2:=EqF.arr Tryz.underlying299 (by unfold Sz;kernel_rfl) (by unfold Sz;kernel_rfl) eqf3
theorem eqf98:EqF Tryz.prog 98 aRn 2:=EqF.struct (k:=1) (λx y h=>by cases x;cases y;simp_all) Tryz.underlying98 (by kernel_rfl) (by unfold Sz;kernel_rfl) ((aKi.cons rfl (by decide) (eqf3.up (by decide)) (aKi.one rfl (by decide) (eqf3.up (by decide)))))
theorem eqf282:EqF Tryz.prog 282 dJ 2:=EqF.struct (k:=1) (λx y h=>by cases x;cases y;simp_all) Tryz.underlying282 (by kernel_rfl) (by unfold Sz;kernel_rfl) ((aKi.cons rfl (by decide) (eqf3.up (by decide)) ((aKi.cons rfl (by decide) (eqf3.up (by decide)) (aKi.one rfl (by decide) (eqf3.up (by decide)))))))
theorem wk282:WK Tryz.prog 282 dJ:=⟨⟨_,Tryz.underlying282,λ_ _=>rfl⟩,λb a w=>by kernel_rfl,⟨_,by decide,eqf282⟩,aOe,aNp,λa=>by exact sb_of rfl⟩
theorem wk299:WK Tryz.prog 299 (Fl.arr 3 (Fl.int .i64)):=⟨⟨_,Tryz.underlying299,λ_ _=>rfl⟩,λb a w=>by obtain⟨x,y,z,h,rfl⟩:=aQr a;kernel_rfl,⟨_,by decide,eqf299⟩,aTx,aYd,λa=>by obtain⟨x,y,z,h,rfl⟩:=aQr a;exact sb_of rfl⟩
abbrev dH:=f1 Rp.str
abbrev aO:=f1 jD
abbrev kE:=f1 uT
abbrev kV:=f1 aAr
abbrev kW:=f1 dB
abbrev rM:=f1 rX
abbrev vC:=f1 fU
abbrev wJ:=f1 fK
abbrev aDo:=f1 aT
abbrev aKh:=f1 aBp
abbrev aFi:=f1 (Rp.int .i64)
abbrev aHa:=f1 dN
section
variable {O S:List Nat}{v w:World}{a b c d e f g i j k l m:Th}
abbrev hh (p:Prop):Prop:=p->p
theorem un1:hh (Hd O v w S [a]):=id
theorem un2:hh (Hd O v w S [a,b]):=id
theorem un3:hh (Hd O v w S [a,b,c]):=id
theorem un4:hh (Hd O v w S [a,b,c,d]):=id
theorem un5:hh (Hd O v w S [a,b,c,d,e]):=id
theorem un6:hh (Hd O v w S [a,b,c,d,e,f]):=id
theorem un7:hh (Hd O v w S [a,b,c,d,e,f,g]):=id
theorem un8:hh (Hd O v w S [a,b,c,d,e,f,g,i]):=id
theorem un9:hh (Hd O v w S [a,b,c,d,e,f,g,i,j]):=id
theorem rY:hh (Hd O v w S [a,b,c,d,e,f,g,i,j,k]):=id
theorem un11:hh (Hd O v w S [a,b,c,d,e,f,g,i,j,k,l]):=id
theorem un12:hh (Hd O v w S [a,b,c,d,e,f,g,i,j,k,l,m]):=id
end
section
variable {P:Program}{N:Nat}{ops:Array Oper}{Q:Exit->Env->World->Prop}{rest:List Oper}{ρ:Env}{w:World}{d f:Nat}{t u ty tz:TypeId}{x y:Operand}{pos qos:String}{af bf:Array Edge}{g h:Option (Nat×Bool)}{b o m i:Nat}
theorem nf (hx:ev ρ x= .pointer (some ⟨b,o,none⟩))(fa:FAt t i m)(n:RL Tryz.prog N ops Q rest (upd (upd ρ d (.pointer (some ⟨b,o,none⟩))) f (.pointer (some ⟨b,o+m,none⟩))) w)(hy:ev (upd ρ d (.pointer (some ⟨b,o,none⟩))) y= .pointer (some ⟨b,o,none⟩):=by exact rfl)(hw:fM N ops ρ ⟨some d,.nilCheck x,ty,pos,af,g⟩=true:=by exact rfl)(hd:Nat.blt d N=true:=by exact rfl)(hv:fM N ops (upd ρ d (.pointer (some ⟨b,o,none⟩))) ⟨some f,.fieldAddr t y i,tz,qos,bf,h⟩=true:=by exact rfl)(hf:Nat.blt f N=true:=by exact rfl):RL Tryz.prog N ops Q (⟨some d,.nilCheck x,ty,pos,af,g⟩::⟨some f,.fieldAddr t y i,tz,qos,bf,h⟩::rest) ρ w:=zJ (xU hx) (zJ (fa hy) n hv hf) hw hd
theorem Xn {I:World->Prop}{κ:List MxM.Kd}{K:MxM.Mm->Env->World->Prop}{k q:Nat}{M:MxM.Mm}{σ:List Nat}(hx:ev ρ x= .pointer (some ⟨b,o,none⟩))(fa:FAt t i m)(n:MxM.XL Tryz.prog I N ops κ K M σ rest (upd (upd ρ d (.pointer (some ⟨b,o,none⟩))) f (.pointer (some ⟨b,o+m,none⟩))) w)(hy:ev (upd ρ d (.pointer (some ⟨b,o,none⟩))) y= .pointer (some ⟨b,o,none⟩):=by exact rfl)(hk:MxM.kdOf κ k= .pure:=by exact rfl)(hq:MxM.kdOf κ q= .pure:=by exact rfl)(hw:fM N ops ρ ⟨some d,.nilCheck x,ty,pos,af,g⟩=true:=by exact rfl)(hd:Nat.blt d N=true:=by exact rfl)(hv:fM N ops (upd ρ d (.pointer (some ⟨b,o,none⟩))) ⟨some f,.fieldAddr t y i,tz,qos,bf,h⟩=true:=by exact rfl)(hf:Nat.blt f N=true:=by exact rfl):MxM.XL Tryz.prog I N ops κ K M (k::q::σ) (⟨some d,.nilCheck x,ty,pos,af,g⟩::⟨some f,.fieldAddr t y i,tz,qos,bf,h⟩::rest) ρ w:=XQ (xU hx) (XQ (fa hy) n hq hv hf) hk hw hd
theorem nJ {I:World->Prop}{κ:List MxM.Kd}{K:MxM.Mm->Env->World->Prop}{M:MxM.Mm}{σ O S:List Nat}{v u:World}{l r:List Th}(G:Hd O v u S r)(H:Hd O u w (bks r) l)(n: ∀a,Hd O v a S l->K M ρ a):MxM.XL P I N ops κ K M σ [] ρ w:=MxM.XL_nil λa s=>n a (G.rj (H.Z s))
end
theorem _root_.Go.Lf.Hd.im {O S:List Nat}{v w:World}{l:List Th}(H:Hd O v w S l)(i:Nat){it:Th}(h:l[i]? =some it):it.holds (frees O l) w:=H.V h
theorem _root_.Go.Lf.Hm.im {n:Nat}{A:Nat->Prop}{O S:List Nat}{v w:World}{l:List Th}(H:Hm n A O v w S l)(i:Nat){it:Th}(h:l[i]? =some it):it.holds (frm O l v) w:=H.V h
theorem p1z {P:Program}{R:Ending->World->Prop}{ρ:Env}{w:World}{rs:Array ResultVar}{t:Tmp}{v:Value}(h:R (.returned v) w)(hr:rs= #[.tmp t]:=by exact rfl)(a:ρ t=v:=by exact rfl):aAg P rs R .ret ρ w:=aJm hr a h
theorem en15:En 15:=fD Tryz.func15
theorem en41:En 41:=fD Tryz.func41
theorem en43:En 43:=fD Tryz.func43
theorem en44:En 44:=fD Tryz.func44
theorem en48:En 48:=fD Tryz.func48
theorem en50:En 50:=fD Tryz.func50
theorem en52:En 52:=fD Tryz.func52
theorem en60:En 60:=fD Tryz.func60
theorem en63:En 63:=fD Tryz.func63
theorem en64:En 64:=fD Tryz.func64
theorem en66:En 66:=fD Tryz.func66
theorem en68:En 68:=fD Tryz.func68
theorem en73:En 73:=fD Tryz.func73
theorem en84:En 84:=fD Tryz.func84
theorem en86:En 86:=fD Tryz.func86
theorem en89:En 89:=fD Tryz.func89
theorem en94:En 94:=fD Tryz.func94
theorem en96:En 96:=fD Tryz.func96
theorem en98:En 98:=fD Tryz.func98
theorem aFc:En 107:=fD Tryz.func107
theorem aEg:En 111:=fD Tryz.func111
theorem en112:En 112:=fD Tryz.func112
theorem aWg:En 113:=fD Tryz.func113
theorem en114:En 114:=fD Tryz.func114
theorem aEz:En 115:=fD Tryz.func115
theorem aCz:En 125:=fD Tryz.func125
theorem aKj:En 126:=fD Tryz.func126
theorem aJi:En 127:=fD Tryz.func127
theorem aXi:En 128:=fD Tryz.func128
theorem en129:En 129:=fD Tryz.func129
theorem aGv:En 130:=fD Tryz.func130
theorem aNr:En 131:=fD Tryz.func131
theorem aQs:En 132:=fD Tryz.func132
theorem en135:En 135:=fD Tryz.func135
theorem en144:En 144:=fD Tryz.func144
theorem aYb:En 145:=fD Tryz.func145
theorem en148:En 148:=fD Tryz.func148
theorem aHo:En 153:=fD Tryz.func153
theorem en156:En 156:=fD Tryz.func156
theorem en157:En 157:=fD Tryz.func157
theorem en158:En 158:=fD Tryz.func158
theorem en159:En 159:=fD Tryz.func159
theorem en162:En 162:=fD Tryz.func162
theorem en166:En 166:=fD Tryz.func166
theorem en179:En 179:=fD Tryz.func179
theorem en186:En 186:=fD Tryz.func186
theorem en191:En 191:=fD Tryz.func191
theorem en194:En 194:=fD Tryz.func194
theorem en195:En 195:=fD Tryz.func195
theorem en196:En 196:=fD Tryz.func196
theorem en197:En 197:=fD Tryz.func197
theorem en198:En 198:=fD Tryz.func198
theorem aMs:En 199:=fD Tryz.func199
theorem en200:En 200:=fD Tryz.func200
theorem en201:En 201:=fD Tryz.func201
theorem en202:En 202:=fD Tryz.func202
theorem aHp:En 203:=fD Tryz.func203
theorem en205:En 205:=fD Tryz.func205
theorem en210:En 210:=fD Tryz.func210
theorem en222:En 222:=fD Tryz.func222
theorem en223:En 223:=fD Tryz.func223
theorem en225:En 225:=fD Tryz.func225
theorem en229:En 229:=fD Tryz.func229
theorem aWm:En 236:=fD Tryz.func236
theorem en245:En 245:=fD Tryz.func245
theorem aMv:En 248:=fD Tryz.func248
theorem aRe:En 249:=fD Tryz.func249
theorem en250:En 250:=fD Tryz.func250
theorem en252:En 252:=fD Tryz.func252
theorem en256:En 256:=fD Tryz.func256
theorem aNe:En 263:=fD Tryz.func263
theorem en272:En 272:=fD Tryz.func272
theorem en273:En 273:=fD Tryz.func273
theorem en276:En 276:=fD Tryz.func276
theorem en309:En 309:=fD Tryz.func309
theorem en310:En 310:=fD Tryz.func310
theorem mixed:Tryz.prog.follows .mixedOrders=true:=by kernel_rfl
theorem aRf {b c d:Int}{r:Bool}(a:Faf b c d=some r)(H:Hd O w w S []):
  Rt 153 [i6 b,i6 c,i6 d] (vb r) w O S []:=by
 refine CW 15 Tryz.func153 ?_;refine SR<|zB (vb false)<|RM<|bE a λf a g=>sJ H (rg [6,9]) [(6,vb f)] ?_ ?_;refine zD<|zA (i6 b)<|zA (i6 c)<|jR a λh a=>RJ a (λa=>?_) (λa=>?_);refine zA (i6 b)<|zA (i6 d)<|tH a λe a=>pt (vb e)<|zB (vb e) ?_;cases a;exact jn<|mt () (H.U []);refine zM<|zM<|zM<|pf (vb false)<|zB (vb false) ?_;cases a;exact jn<|mt () (H.U []);rintro _ ρ i H;have a:=g;cases a;exact zH<|p1z ⟨rfl,H.U []⟩
theorem Ff2w {a:Part}{c:Int}{d:Nat}{r:Bool}(b:Ff2 a c=some r)(H:Hd O w w S [.blk d [i6 c] 3]):
  Rt 219 [.agg [i6 a.Frame,i6 a.Word,i6 a.Low,i6 a.Bits].toArray,gK d] (vb r) w O S [.blk d [i6 c] 3]:=by
 refine CW 9 Tryz.func219 ?_;refine SR<|xb (yJ (cs:=[i6 a.Frame,i6 a.Word,i6 a.Low,i6 a.Bits]) Z H) λf g H=>zB (vb false)<|RM<|SR<|Ld gW H 0 0 Z Z<|zJ (aCm Z)<|Ld gW H 1 0 Z Z<|fE b λh b=>jR b λe b=>zB (vb e)<|RM ?_;cases b;exact zH<|p1z ⟨Z,H.U [0]⟩
theorem Fhdw {f:List Part}{p1c0 r:Int}{c:Value}{d:Nat}(a:Fhd f p1c0=some r)(H:Hd O w w S [.blk d [i6 p1c0] 3,aO c f]):
  Rt 261 [c,.func (.func 219) #[] #[gK d]] (i6 r) w O S [.blk d [i6 p1c0] 3]:=by
 refine CW 19 Tryz.func261 ?_;refine SR<|zB (i6 0)<|RM<|jk a H (rg [4,15]) (λx (y:Unit)=>[]) (λx y=>[]) [0] (λt a=>?_) ?_;refine SR<|zA c<|ln a (H.im 1 Z) sZ λu a=>zA (i6 0)<|RM<|zI<|lo a H (rg [4,2,8,11]) (λx (y:Unit)=>[(8,i6 x)]) (λx y=>[]) [0,1] () (H.U [0,1]) ?_;clear H a;rintro v b _ ρ _ H a;have H:=un2 H;refine SR<|fF a λA a=>RM<|SQ<|WJ a (λa=>WZ<|SQ<|zI<|SR<|zA (i6 b)<|zB (i6 b)<|RM<|SR<|zA (.func (.func 219) #[] #[gK d])<|zA c<|zA (i6 b)<|bE a λe g a=>?_) λa=>?_;obtain⟨h,i,B,C,j,k,m,n,o⟩:=yQ (H.im 1 Z) g;obtain rfl:=kC k;have H:=H.fz (.at h (i+b.toNat*4) _) ⟨m,n,o⟩;refine ix sZ aU j g<|zJ (yI (zW (cs:=[i6 e.Frame,i6 e.Word,i6 e.Low,i6 e.Bits]) uM Z aU Z (H.im 2 Z).2.2) Z)<|bE a λD p a=>xC Z Z (xM (fD Tryz.func219) Z Z) (Ff2w p (H.W [0] [])) ?_;rintro _ _ ⟨rfl,q⟩;have H:=un3<|H.back [0] [] Z q;refine⟨_,Z,?_⟩;refine RM<|WJ a (λa=>SR<|zA (i6 b)<|zB (i6 b)<|RM ?_) λa=>?_;cases a;exact zH<|zN<|zF<|zF<|zN<|zF<|p1z ⟨Z,H.U [2]⟩;exact yE<|zO<|zG<|KN<|zD<|fE a λs a=>zA (i6 s)<|jn<|me a () (H.U [2,0]);exact zX<|zL<|zL<|zS<|zG<|me a () (H.U [0]);rintro _ _ ρ _ H a;have H:=un1 H;refine SR<|zB (i6 (-1))<|RM ?_;cases a;exact zH<|p1z ⟨Z,H.U [0]⟩
theorem Fd6w {d:List Part}{p1c0:Int}{c:Value}{b:Nat}{r:Bool}(a:Fd6 d p1c0=some r)(H:Hd O w w S [.blk b [i6 p1c0] 3,aO c d]):
  Rt 218 [c,.func (.func 219) #[] #[gK b]] (vb r) w O S [.blk b [i6 p1c0] 3]:=by
 refine CW 9 Tryz.func218 ?_;refine SR<|zB (vb false)<|RM<|SR<|zA c<|zA (.func (.func 219) #[] #[gK b])<|bE a λh e a=>cAz (fD Tryz.func261) (Fhdw e (H.W [0] [1])) λi f=>?_;have H:=un2<|H.back [0] [1] Z f;refine jR a λg a=>zB (vb g)<|RM ?_;cases a;exact zH<|p1z ⟨Z,H.U [1]⟩
theorem Fb1w {b:Param}{c d:Value}{r:(List Int)}(a:Fb1 b=some r)(H:Hd O w w S [aO c b.Parts,dH d b.Names]):
  Cl 156 [.agg [sb b.Name,i6 b.Kind,c,i6 b.First,i6 b.Every,i6 b.Times,i6 b.Step,d].toArray] w λe m=> ∃u5,e= .returned (u5)/\Hd O w m S [.own (Rp.int .i64) u5 3 r]:=by
 refine CW 24 Tryz.func156 ?_;refine SR<|xb (yJ (cs:=[sb b.Name,i6 b.Kind,c,i6 b.First,i6 b.Every,i6 b.Times,i6 b.Step,d]) Z H) λ_ _ H=>zB (.slice none 0 0)<|RM<|SR<|zB (.slice none 0 0)<|RM<|bE a λn a o=>jo H (rg [3,20]) (λ(g:Value)=>[(3,g)]) (λg=>[.own (Rp.int .i64) g 3 n]) [0] ?_ ?_;refine SR<|zJ (aIz Z)<|Ld gW H 2 3 Z Z<|xb (zZ zero3 H) λp _ H=>xu (yS H 3 Z sz3 Z (v:=i6 b.First) Z Z Z) λ_ H=>RM<|zI ?_;have H:=xW H (Rp.int .i64) 3;refine lo a H (rg [3,2,7,16]) (λx (y:Value×Nat)=>[(3,y.1),(4,.pointer (some ⟨y.2,0,none⟩))]) (λx y=>[.own (Rp.int .i64) y.1 3 x.1,.blk y.2 [i6 x.2] 3]) (rg [0,5]) (.slice none 0 0,p) (H.U [4,3,0,1,2]) ?_;clear H a;rintro _ ⟨_,j⟩ ⟨f,_⟩ ρ _ H a;have H:=un5 H;refine SQ<|SR<|Ld gW H 1 0 Z Z<|fF a λN a=>RM<|WJ a (λa=>WZ<|bE a λq a s=>jo H (rg [3,1,13,9]) (λ(g:Value)=>[(3,g)]) (λg=>[.own (Rp.int .i64) g 3 q]) [0,2,3,4,5] ?_ ?_) λa=>?_;refine zI<|SR<|zJ (jM Z)<|Ld pV H 4 2 Z Z<|zJ (yZ Z)<|bE a λP t a=>cAz (fD Tryz.func218) (Fd6w t (H.W [1] [2])) λQ u=>?_;have H:=un5<|H.back [1] [2] Z u;refine eX a λ_ a=>RM<|WJ a (λa=>zD<|zA f<|Ld gW H 4 0 Z Z<|lE a λT z a=>?_) λa=>?_;subst z;refine xv (kl aUl [j] u50 el3 H) λU V H=>bE a λX A a=>xv (wI H (i:=0) Z u50 el3 Z Z (Sr.xE (H.im 5 Z)) A) λk Y H=>zB k ?_;cases a;exact yL<|zO<|zG<|mt k (H.U [0,4,1,2,3]);cases a;exact yE<|zO<|zG<|mt f (H.U [0,4,1,2,3])
 rintro B ρ _ H;have H:=un5 H;have a:=s;exact SQ<|SR<|Ld gW H 1 0 Z Z<|RM<|zD<|xb (zZ zero3 H) λC _ H=>xu (yS H 5 Z sz3 Z (v:=i6 j) Z Z Z) λ_ H=>RM<|zD<|Ld gW H 5 0 Z Z<|zJ (aCh Z)<|Ld gW H 4 4 Z Z<|fE a λD a=>xu (yS H 5 Z sz3 Z (v:=i6 D) Z Z Z) λ_ H=>jn<|me a (B,C) (H.U [0,5,2,3,4]);cases a;exact zX<|zL<|zL<|zS<|zG<|mt f (H.U [0]);rintro h ρ _ H;have H:=un1 H;have a:=o;refine SR<|zA h<|zB h<|RM ?_;cases a;exact zH<|p1z ⟨h,Z,H.U [0]⟩
theorem Fevw {a:Param}{b:Part}{d e:Int}{f g:Value}{r:fG}(c:Fev a b d e=some r)(H:Hd O w w S [aO f a.Parts,dH g a.Names]):
  Rt 220 [.agg [sb a.Name,i6 a.Kind,f,i6 a.First,i6 a.Every,i6 a.Times,i6 a.Step,g].toArray,.agg [i6 b.Frame,i6 b.Word,i6 b.Low,i6 b.Bits].toArray,i6 d,i6 e] (.agg [i6 r.Frame,i6 r.Word,i6 r.Low,i6 r.Bits].toArray) w O S []:=by
 refine CW 25 Tryz.func220 ?_;refine SR<|xb (yJ (cs:=[sb a.Name,i6 a.Kind,f,i6 a.First,i6 a.Every,i6 a.Times,i6 a.Step,g]) Z H) λj k H=>xb (yJ (cs:=[i6 b.Frame,i6 b.Word,i6 b.Low,i6 b.Bits]) Z H) λm _ H=>xb (zZ aEh H) λo _ H=>RM<|SR<|zA (i6 d)<|zJ (aCm Z)<|Ld gW H 3 0 Z Z<|fE c λh c=>zJ (aCl Z)<|Ld gW H 3 1 Z Z<|zA (i6 e)<|zJ (qZ Z)<|Ld gW H 2 6 Z Z<|tY c λ_ c=>fE c λi c=>zJ (aCj Z)<|Ld gW H 3 2 Z Z<|zJ (aCi Z)<|Ld gW H 3 3 Z Z<|zJ (yM (cs:=[i6 h,i6 i,i6 b.Low,i6 b.Bits]) (aDa _ _ _ _))<|xu (zT (vs:=[i6 h,i6 i,i6 b.Low,i6 b.Bits]) H 4 Z rV Z Z Z ⟨Z,Z,Z,Z,T1⟩ Z) λ_ H=>RM ?_;cases c;exact zH<|bD Z Z (zV aFt rV Z (Hbc H 4 Z)) ⟨Z,H.U []⟩
theorem Fbbw {k:Int}{b:Param}{n o:Value}{r:(List Cell)}(a:Fbb k b=some r)(H:Hd O w w S [aO n b.Parts,dH o b.Names]):
  Cl 157 [i6 k,.agg [sb b.Name,i6 b.Kind,n,i6 b.First,i6 b.Every,i6 b.Times,i6 b.Step,o].toArray] w λe h=> ∃u5,e= .returned (u5)/\Hd O w h S [.own dS u5 137 r]:=by
 refine CW 54 Tryz.func157 ?_;refine SR<|xb (yJ (cs:=[sb b.Name,i6 b.Kind,n,i6 b.First,i6 b.Every,i6 b.Times,i6 b.Step,o]) Z H) λ_ _ H=>zB (.slice none 0 0)<|RM<|SR<|zB (.slice none 0 0)<|RM<|bE a λF a G=>jo H (rg [5,1,7,3,11,42]) (λ(g:Value)=>[(5,g)]) (λg=>[.own dS g 137 F]) [0] ?_ ?_;refine SR<|lb H 2 Z eP fO<|bE a λ_ I a=>cAa en156 (Fb1w I (H.W [] [0,1])) λa0 _ J=>?_;have H:=H.back1 [0,1] Z J;obtain⟨a2,a3,K⟩:=Sr.len (Sr.xE (H.im 3 Z));refine RLi a (dM u50 K) λa4 a=>zA (i6 0)<|RM<|zI ?_;have H:=xW H dS 137;refine lo a H (rg [5,1,7,3,11,1,15,38]) (λx (y:Value)=>[(5,y),(15,i6 x.2)]) (λx y=>[.own dS y 137 x.1]) (rg [0,5]) (.slice none 0 0) (H.U [4,0,1,2,3]) ?_;clear H a;rintro a5 ⟨_,_⟩ z ρ _ H a;have H:=un5 H;refine SR<|fF a λa9 a=>RM<|SQ<|WJ a (λa=>WZ<|bE a λL a M=>jo H (rg [5,1,7,3,11,1,17,35]) (λ(g:Value)=>[(5,g)]) (λg=>[.own dS g 137 L]) [0,2,3,4,5] ?_ ?_) λa=>?_;refine zI<|SR<|bE a λj A a=>?_;obtain⟨_,_,N,P,Q,R⟩:=wC (H.im 4 Z) A;obtain rfl:N=[i6 j]:=Q;refine ix u50 sz3 P A<|zJ (yH gW Z (Cells.get R (i:=0) Z))<|zB (i6 j)<|RM<|SR<|zJ (mV Z)<|Ld gW H 3 5 Z Z<|zA (i6 0)<|RM<|zI<|lo a H (rg [5,1,8,2,11,1,21,31]) (λx (y:Value)=>[(5,y),(21,i6 x.2)]) (λx y=>[.own dS y 137 x.1]) [0,2,3,4,5] z (H.U (rg [0,5])) ?_;clear H a;rintro _ ⟨_,p⟩ s ρ _ H a;have H:=un5 H;refine SR<|fF a λbf a=>RM<|SQ<|WJ a (λa=>WZ<|bE a λT a U=>jo H (rg [5,1,8,2,11,1,23,28]) (λ(g:Value)=>[(5,g)]) (λg=>[.own dS g 137 T]) [0,2,3,4,5] ?_ ?_) λa=>?_
 refine zI<|SR<|zA (i6 p)<|zB (i6 p)<|RM<|SR<|zA (i6 k)<|zA s ?_;obtain⟨_,_,V⟩:=Sr.len (Sr.xE (H.im 0 Z));refine RLi a (dM u131 V) λm a=>zA (i6 j)<|zJ (yM (cs:=[i6 k,i6 m,i6 j,.slice none 0 0]) (aHj _ _ _))<|xb (zZ aAz H) λB _ H=>xu (zT (vs:=[i6 k,i6 m,i6 j,.slice none 0 0]) H 5 Z kQ Z Z Z ⟨Z,Z,Z,Z,T1⟩ Z) λ_ H=>RM<|bE a λt a X=>jo H (rg [11,1,29,18]) (λ(g:Value)=>[]) (λg=>[.blk B [i6 k,i6 m,i6 j,g] 137,.own dC g 139 t]) (rg [2,5,0,2]) ?_ ?_;refine SR<|zJ (jM Z)<|Ld pV H 3 2 Z Z<|ln a (H.im 1 Z) sZ λ_ a=>zA (i6 0)<|RM<|zI ?_;have H:=xW H dC 139;refine lo a H (rg [11,1,32,15]) (λx (y:Value)=>[(32,i6 x.1)]) (λx y=>[.blk B [i6 k,i6 m,i6 j,y] 137,.own dC y 139 x.2]) (rg [2,5,0,2]) (.slice none 0 0) (H.U (rg [0,7])) ?_;clear H a;rintro _ ⟨Y,_⟩ aa ρ _ H a;have H:=un7 H;refine SR<|fF a λ_ a=>RM<|SQ<|WJ a (λa=>WZ<|SQ<|zI<|SR<|bE a λf C a=>?_) λa=>?_;obtain⟨ab,ac,_,_,ad,ae,af,ag,ah⟩:=yQ (H.im 1 Z) C;obtain rfl:=kC ae;have H:=H.fz (.at ab (ac+Y.toNat*4) _) ⟨af,ag,ah⟩;refine ix sZ aU ad C<|zJ (yI (zW (cs:=[i6 f.Frame,i6 f.Word,i6 f.Low,i6 f.Bits]) uM Z aU Z (H.im 7 Z).2.2) Z)<|xb (zZ tK H) λ_ _ H=>xu (zT (vs:=[i6 f.Frame,i6 f.Word,i6 f.Low,i6 f.Bits]) H 8 Z aU Z Z Z ⟨Z,Z,Z,Z,T1⟩ Z) λ_ H=>RM ?_;have ai:=H;have H:=H.rb;have bv:=H;refine yV H (rg [0,11]) (kz [0,1,1,1,0,0,1,2,3,0,3]) mixed ?_;refine XQ (mO Z)<|XR uQ H 5 3 Z Z<|MxM.yG oS Z Z Z (λh d=>yI (zW (cs:=[sb b.Name,i6 b.Kind,n,i6 b.First,i6 b.Every,i6 b.Times,i6 b.Step,o]) eP Z fO Z (Blk.cells ((H.Z d).V (i:=3) Z))) Z)<|MxM.yG oS Z Z Z (λh d=>yI (zW (cs:=[i6 f.Frame,i6 f.Word,i6 f.Low,i6 f.Bits]) uM Z aU Z (Blk.cells ((H.Z d).V (i:=8) Z))) Z) ?_
 refine XM (i6 j)<|XM (i6 p) ?_;have aj:=H;refine bE a λc ak a=>MxM.XL_call oS Z Z Z (v:= .agg [i6 c.Frame,i6 c.Word,i6 c.Low,i6 c.Bits].toArray) (λh d=>yR (fD Tryz.func220) Z) (λh d=>by have q:=xH (Fevw ak ((H.Z d).W [] [1,2]));exact q) ?_;have H:=aj;refine lE a λ_ al a=>?_;subst al;refine MxM.XL_exN oS Z Z Z (λh d=>aEm (sG dC c [i6 c.Frame,i6 c.Word,i6 c.Low,i6 c.Bits] aCv aQn (aJo (x:=c)) (H.Z d)) (aEv (cs:=[i6 c.Frame,i6 c.Word,i6 c.Low,i6 c.Bits]) aCv aQn (by decide) (by decide) (aY (vs:=[.agg [i6 c.Frame,i6 c.Word,i6 c.Low,i6 c.Bits].toArray]) (by decide) Z Z ⟨Z,T1⟩ Z))) ?_;rintro h _ _ d H;refine bE a λ_ am a=>Xe (λh d=>wI (H.Z d) (i:=6) Z aCv aQn Z Z (Sr.xE ((H.Z d).V (i:=9) Z)) am) λh D _ d H=>XQ (mO Z)<|Xu (λh d=>yS (H.Z d) 5 Z sz135 Z (v:=D) Z (dD ((H.Z d).V (i:=6) Z)) Z) λh _ d H=>nJ ai H λ_ H=>?_;refine zO (zG (KN ?_));exact zD<|fE a λan a=>zA (i6 an)<|jn<|me a D (H.U (rg [0,7]));cases a;exact zX<|zL<|zL<|zS<|zG<|mt aa (H.U (rg [0,7]));rintro ao ρ _ H;have H:=un7 H;have a:=X;refine zD<|zA s<|lb H 5 Z uN kQ ?_;have H:=H.freeze (i:=6) Z;refine lE a λ_ ap a=>?_;subst ap;refine xv (sG dS (Cell.mk k m j t) [i6 k,i6 m,i6 j,ao] u131 aHc (aLi (x:=Cell.mk k m j t) (H.im 6 Z)) H) λ_ _ H=>bE a λ_ aq a=>xv (wI H (i:=0) Z u131 aHc Z Z (Sr.xE (H.im 7 Z)) aq) λE _ H=>zB E ?_;cases a;exact yL<|zO<|zG<|mt E (H.U (rg [0,5]))
 rintro ar ρ _ H;have H:=un5 H;have a:=U;exact zD<|fE a λau a=>zA (i6 au)<|jn<|me a ar (H.U (rg [0,5]));cases a;exact zX<|zL<|zL<|zS<|zO<|zG<|mt s (H.U (rg [0,5]));rintro av ρ _ H;have H:=un5 H;have a:=M;exact zD<|fE a λaw a=>zA (i6 aw)<|jn<|me a av (H.U (rg [0,5]));cases a;exact zX<|zL<|zL<|zS<|zG<|mt z (H.U [0]);rintro u ρ _ H;have H:=un1 H;have a:=G;refine SR<|zA u<|zB u<|RM ?_;cases a;exact zH<|p1z ⟨u,Z,H.U [0]⟩
theorem Fc1w {b:fG}{r:(List fA)}(a:Fc1 b=some r)(H:Hd O w w S []):
  Cl 221 [.agg [i6 b.Frame,i6 b.Word,i6 b.Low,i6 b.Bits].toArray] w λe m=> ∃h,e= .returned (h)/\Hd O w m S [.own nY h 282 r]:=by
 refine CW 24 Tryz.func221 ?_;refine SR<|xb (yJ (cs:=[i6 b.Frame,i6 b.Word,i6 b.Low,i6 b.Bits]) Z H) λt u H=>zB (.slice none 0 0)<|RM<|SR<|zB (.slice none 0 0)<|RM<|bE a λn a o=>jo H (rg [3,20]) (λ(g:Value)=>[(3,g)]) (λg=>[.own nY g 282 n]) [0] ?_ ?_;refine SR<|zJ (aCt Z)<|Ld gW H 0 3 Z Z<|zA (i6 0)<|RM<|zI ?_;have H:=xW H nY 282;refine lo a H (rg [3,2,7,16]) (λx (y:Value)=>[(3,y),(7,i6 x.2)]) (λx y=>[.own nY y 282 x.1]) [0,1] (.slice none 0 0) (H.U [1,0]) ?_;clear H a;rintro v ⟨_,d⟩ j ρ A H a;have H:=un2 H;refine SR<|fF a λB a=>RM<|SQ<|WJ a (λa=>WZ<|SQ<|zI<|SR<|zA (i6 d)<|zB (i6 d)<|RM<|zD<|zA j<|zJ (aEr Z)<|Ld gW H 1 0 Z Z<|zJ (aCf Z)<|Ld gW H 1 1 Z Z<|zJ (aFn Z)<|Ld gW H 1 2 Z Z<|zA (i6 d)<|fE a λc a=>zJ (yM (cs:=[i6 b.Frame,i6 b.Word,i6 c]) (aQz _ _ _))<|lE a λC p a=>?_) λa=>?_;subst p;refine xv (sG nY (fA.mk b.Frame b.Word c) [i6 b.Frame,i6 b.Word,i6 c] u279 el282 (aLv (x:=fA.mk b.Frame b.Word c)) H) λD _ H=>bE a λ_ q a=>xv (wI H (i:=0) Z u279 el282 Z Z (Sr.xE (H.im 2 Z)) q) λk _ H=>zB k<|(yL (zO (zG (KN ?_))));exact zD<|fE a λs a=>zA (i6 s)<|jn<|me a k (H.U [0,1]);cases a;exact zX<|zL<|zL<|zS<|zG<|mt j (H.U [0]);rintro f ρ _ H;have H:=un1 H;have a:=o;refine SR<|zA f<|zB f<|RM ?_;cases a;exact zH<|p1z ⟨f,Z,H.U [0]⟩
theorem Fbmw {j:List (fA×Int)}{f:Int}{n:List fG}{b:Nat}{h:Value}{r:Bool×(List (fA×Int))}(a:Fbm j f n=some r)(H:Hd O w w S [.mp b (eY dJ (λv=>Value.int .i64 v) j),f1 dC h n]):
  Rt 158 [.map (some b),i6 f,h] (vb r.1) w O S [.mp b (eY dJ (λv=>Value.int .i64 v) r.2)]:=by
 refine CW 38 Tryz.func158 ?_;refine SR<|zB (vb false)<|RM<|jk a H (rg [6,1,8,1,10,28]) (λx (y:Unit)=>[]) (λx y=>[.mp b (eY dJ (λv=>Value.int .i64 v) x)]) [0] (λU a=>?_) ?_;refine SR<|zA h<|ln a (H.im 1 Z) aCv λV a=>zA (i6 0)<|RM<|zI<|lo a H (rg [6,1,8,1,10,3,15,23]) (λx (y:Unit)=>[(15,i6 x.1)]) (λx y=>[.mp b (eY dJ (λv=>Value.int .i64 v) x.2)]) [0,2] () (H.U [0,1]) ?_;clear H a;rintro X ⟨s,Y⟩ _ ρ _ H a;have H:=un2 H;refine SR<|fF a λ_ a=>RM<|SQ<|WJ a (λa=>WZ<|jk a H (rg [6,1,8,1,10,3,17,20]) (λx (y:Unit)=>[]) (λx y=>[.mp b (eY dJ (λv=>Value.int .i64 v) x)]) [0,2] (λ_ a=>?_) ?_) λa=>?_;refine zI<|SR<|bE a λc o a=>?_;obtain⟨t,u,_,_,z,A,B,C,D⟩:=yQ (H.im 1 Z) o;obtain rfl:=mM A;have H:=H.fz (.at t (u+s.toNat*4) _) ⟨B,C,D⟩;refine ix aCv rV z o<|zJ (yI (zW (cs:=[i6 c.Frame,i6 c.Word,i6 c.Low,i6 c.Bits]) aFt Z rV Z (H.im 2 Z).2.2) Z)<|xb (zZ aEh H) λaf _ H=>xu (zT (vs:=[i6 c.Frame,i6 c.Word,i6 c.Low,i6 c.Bits]) H 3 Z rV Z Z Z ⟨Z,Z,Z,Z,T1⟩ Z) λ_ H=>RM<|SR<|lb H 3 Z aFt rV<|bE a λ_ E a=>cAa (fD Tryz.func221) (Fc1w E (H.W [] [])) λ_ _ F=>?_;have H:=H.back1 [] Z F;obtain⟨_,_,I⟩:=Sr.len (Sr.xE (H.im 4 Z));refine RLi a (dM u279 I) λ_ a=>zA (i6 0)<|RM<|zI<|lo a H (rg [6,1,10,3,22,15]) (λx (y:Unit)=>[(22,i6 x.1)]) (λx y=>[.mp b (eY dJ (λv=>Value.int .i64 v) x.2)]) [0,2,5] () (H.U [0,1,4]) ?_;clear H a;rintro _ ⟨_,p⟩ _ ρ _ H a
 have H:=un3 H;refine SR<|fF a λ_ a=>RM<|SQ<|WJ a (λa=>WZ<|SQ<|zI<|SR<|bE a λd q a=>?_) λa=>?_;obtain⟨_,_,_,J,K,L⟩:=wC (H.im 2 Z) q;obtain rfl:=aHx K;refine ix u279 aNp J q<|zJ (yI (zW (cs:=[i6 d.frame,i6 d.word,i6 d.bit]) aOe Z aNp Z L) Z)<|xb (zZ zero282 H) λ_ _ H=>xu (zT (vs:=[i6 d.frame,i6 d.word,i6 d.bit]) H 3 Z aNp Z Z Z ⟨Z,Z,Z,T1⟩ Z) λM H=>RM<|SQ<|SR<|zA (.map (some b))<|lb H 3 Z aOe aNp<|lE a λi N a=>lE a λg P a=>zJ (aQh (e:=dJ) (G:=(λv=>Value.int .i64 v)) (m:=p) (k:=d) (zv:=0) wk282 (H.im 0 Z) u231 Z Z (Tryz.zeroValue3 M) N P)<|zA (.tuple #[i6 i,vb g])<|zJ (yC (v:=i6 i) Z Z)<|zJ (yC (v:=vb g) Z Z)<|zB (i6 i)<|zB (vb g)<|RM<|SQ<|zD<|zA (vb g)<|RM<|WJ a (λa=>SR<|zB (vb false)<|RM ?_) λa=>?_;cases a;exact zH<|zF<|zN<|zF<|zF<|zN<|zN<|zF<|zF<|zN<|zF<|p1z ⟨Z,H.U [0]⟩;exact WZ<|zD<|zA (.map (some b))<|lb H 3 Z aOe aNp<|zA (i6 f)<|lE a λ_ Q a=>xu (aKo (e:=dJ) (G:=(λv=>Value.int .i64 v)) (m:=p) (k:=d) (v:=f) wk282 H 0 Z u231 Z Z Z Q) λa0 H=>yL<|zO<|zG<|KN<|zD<|fE a λR a=>zA (i6 R)<|jn<|me a () (H.U [0,1,2]);exact zX<|zL<|zL<|zS<|zO<|zG<|me a () (H.U [0,1]);rintro _ _ ρ a2 H a;have H:=un2 H;exact zD<|fE a λT a=>zA (i6 T)<|jn<|me a () (H.U [0,1]);exact zX<|zL<|zL<|zS<|zG<|me a () (H.U [0]);rintro a3 _ ρ a4 H a;have H:=un1 H;refine SR<|zB (vb true)<|RM ?_;cases a;exact zH<|p1z ⟨Z,H.U [0]⟩
theorem Fe1w {b:Int}{r:Bool}(a:Fe1 b=some r)(H:Hd O w w S []):
  Rt 228 [.int .i32 b] (vb r) w O S []:=by
 refine CW 22 Tryz.func228 ?_;refine SR<|zB (vb false)<|RM<|bE a λd a e=>sJ H (rg [2,20]) [(2,vb d)] ?_ ?_;refine zD<|zA (.int .i32 b)<|jR a λ_ a=>bE a λf a g=>xA 4 [5,6,7,8] [(8,vb f)] (λwl=>Hd O w wl S []) ?_ ?_;refine RJ a (λa=>zA (.int .i32 b)<|tH a λh a=>pt (vb h) ?_) λa=>?_;cases a;exact jn<|meet ⟨(yB Z yF),H.U []⟩;refine zM<|zM<|pf (vb false) ?_;cases a;exact jn<|meet ⟨(yB Z yF),H.U []⟩;rintro ρ o H;have a:=g;refine bE a λi a j=>xA 8 [9,10,11,12,13,14,15,16] [(16,vb i)] (λwl=>Hd O w wl S []) ?_ ?_;refine RJ a (λa=>zM<|zM<|zM<|zM<|zM<|zM<|pt (vb true) ?_) λa=>?_;cases a;exact jn<|meet ⟨(yB Z yF),H.U []⟩;refine zA (.int .i32 b)<|jR a λ_ a=>RJ a (λa=>zA (.int .i32 b)<|tH a λc a=>pt (vb c)<|pf (vb c) ?_) λa=>?_;cases a;exact jn<|meet ⟨(yB Z yF),H.U []⟩;refine zM<|zM<|pf (vb false)<|pf (vb false) ?_;cases a;exact jn<|meet ⟨(yB Z yF),H.U []⟩;rintro ρ _ H;have a:=j;refine RJ a (λa=>zM<|zM<|pt (vb true)<|zJ (pU (p:=true) Z)<|zB (vb false) ?_) λa=>?_;cases a;exact jn<|mt () (H.U []);refine zA (.int .i32 b)<|eF a λk a=>pf (vb k)<|eX a λm a=>zB (vb m) ?_;cases a;exact jn<|mt () (H.U []);rintro _ ρ t H;have a:=e;cases a;exact zH<|p1z ⟨Z,H.U []⟩
theorem bad_p (x:Nat):Fe1 (x:Int)=some (!aS x):=by
 have a:decide (97<=(x:Int))=decide (97<=x):=decide_eq_decide.2 (by omega);have b:decide ((x:Int)<=122)=decide (x<=122):=decide_eq_decide.2 (by omega);have c:decide (48<=(x:Int))=decide (48<=x):=decide_eq_decide.2 (by omega);have d:decide ((x:Int)<=57)=decide (x<=57):=decide_eq_decide.2 (by omega);have e:decide ((x:Int)=45)=decide (x=45):=decide_eq_decide.2 (by omega);unfold Fe1 aS;rw [a];simp only [b,c,d,e];generalize decide (97<=x)=f;generalize decide (x<=122)=g;generalize decide (48<=x)=h;generalize decide (x<=57)=i;generalize decide (x=45)=j;cases f<;>cases g<;>cases h<;>cases i<;>cases j<;>exact rfl
theorem Flf {a:Str}{r:Bool}(b:Fha a=some r)(H:Hd O w w S []):
  Rt 227 [sb a,.func (.func 228) #[] #[]] (vb r) w O S []:=by
 have hr:=oI b;subst hr;have hp:Go.Proofs.PredGrows Tryz.prog 228 #[] (λx=> !aS x) w:=λW x hx _=>by
  exact(Fe1w (bad_p x) (Hd.fresh0 W)).mono λe c h=>⟨h.1,h.2.only.below⟩
 refine(Go.Proofs.Any.strings_ContainsFunc_grows aTf 228 #[] (Go.Proofs.enters_of Tryz.func228 (by kernel_rfl) rfl) (λx=> !aS x) (bs a) w hp).mono λe c h=>⟨?_,H.step (Only.of_below h.2)⟩
 rw [h.1]
 congr 2
 unfold Go.Lib.idxFunc;rw [aXd (λx hx=>?_) a _ 0 (by simp [bs,ByteArray.size]),List.drop_zero];unfold aS;simp;omega
theorem Fblw {b:Str}{r:Bool}(a:Fbl b=some r)(H:Hd O w w S []):
  Rt 166 [sb b] (vb r) w O S []:=by
 refine CW 24 Tryz.func166 ?_;refine SR<|zB (vb false)<|RM<|SQ<|bE a λc a d=>sJ H (rg [3,18]) [(20,vb c)] ?_ ?_;refine zD<|zA (sb b)<|RLi a (aB (s1:=b) u9 Z) λ_ a=>fF a λt a=>bE a λe a f=>xA 5 [6,7,8,9,10] [(10,vb e)] (λwl=>Hd O w wl S []) ?_ ?_;refine RJ a (λa=>zM<|zM<|zM<|pt (vb true) ?_) λa=>?_;cases a;exact jn<|meet ⟨(yB Z yF),H.U []⟩;refine zA (sb b)<|RLi a (aB (s1:=b) u9 Z) λu a=>dR a λg a=>pf (vb g) ?_;cases a;exact jn<|meet ⟨(yB Z yF),H.U []⟩;rintro ρ v H;have a:=f;refine bE a λh a i=>xA 5 [11,12,13,14,15] [(15,vb h)] (λwl=>Hd O w wl S []) ?_ ?_;refine RJ a (λa=>zM<|zM<|zM<|pt (vb true) ?_) λa=>?_;cases a;exact jn<|meet ⟨(yB Z yF),H.U []⟩;refine zA (sb b)<|bE a λx j a=>zJ (pW (s1:=b) (q:=0) u9 Z Z j)<|fF a λk a=>pf (vb k) ?_;cases a;exact jn<|meet ⟨(yB Z yF),H.U []⟩;rintro ρ y H;have a:=i;refine RJ a (λa=>zM<|zM<|zM<|pt (vb true) ?_) λa=>?_;cases a;exact jn<|mt () (H.U []);refine zA (sb b)<|bE a λ_ m a=>zJ (pW (s1:=b) (q:=0) u9 Z Z m)<|dR a λn a=>pf (vb n) ?_;cases a;exact jn<|mt () (H.U []);rintro _ ρ A H;have a:=d;refine WJ a (λa=>SR<|zB (vb false)<|RM ?_) λa=>?_;cases a;exact zH<|zF<|p1z ⟨Z,H.U []⟩;refine WZ<|SR<|zA (sb b)<|bE a λB o a=>RC (fD Tryz.func227) (Flf o (H.W [] [])) H λC H=>eX a λp a=>zB (vb p)<|RM ?_;cases a;exact zH<|p1z ⟨Z,H.U []⟩
theorem Fazw {b:Param}{d e:Value}{r:Int}(a:Faz b=some r)(H:Hd O w w S [aO d b.Parts,dH e b.Names]):
  Rt 229 [.agg [sb b.Name,i6 b.Kind,d,i6 b.First,i6 b.Every,i6 b.Times,i6 b.Step,e].toArray] (i6 r) w O S []:=by
 refine CW 19 Tryz.func229 ?_;refine SR<|xb (yJ (cs:=[sb b.Name,i6 b.Kind,d,i6 b.First,i6 b.Every,i6 b.Times,i6 b.Step,e]) Z H) λ_ A H=>zB (i6 0)<|RM<|SR<|zB (i6 0)<|RM<|bE a λf a i=>jo H (rg [3,1,5,13]) (λ(g:Unit)=>[(3,i6 f)]) (λg=>[]) [] ?_ ?_;refine SR<|zJ (jM Z)<|Ld pV H 2 2 Z Z<|ln a (H.im 0 Z) sZ λB a=>zA (i6 0)<|RM<|zI<|lo a H (rg [3,1,5,1,9,9]) (λx (y:Unit)=>[(3,i6 x.1),(9,i6 x.2)]) (λx y=>[]) [0] () (H.U [0]) ?_;clear H a;rintro C ⟨j,k⟩ _ ρ D H a;have H:=un1 H;refine SR<|fF a λ_ a=>RM<|SQ<|WJ a (λa=>WZ<|SQ<|zI<|SR<|bE a λc h a=>?_) λa=>?_;obtain⟨m,n,_,_,o,p,q,s,t⟩:=yQ (H.im 0 Z) h;obtain rfl:=kC p;have H:=H.fz (.at m (n+k.toNat*4) _) ⟨q,s,t⟩;refine ix sZ aU o h<|zJ (yI (zW (cs:=[i6 c.Frame,i6 c.Word,i6 c.Low,i6 c.Bits]) uM Z aU Z (H.im 1 Z).2.2) Z)<|xb (zZ tK H) λ_ _ H=>xu (zT (vs:=[i6 c.Frame,i6 c.Word,i6 c.Low,i6 c.Bits]) H 2 Z aU Z Z Z ⟨Z,Z,Z,Z,T1⟩ Z) λ_ H=>RM<|zD<|zA (i6 j)<|zJ (aCi Z)<|Ld gW H 2 3 Z Z<|fE a λu a=>zB (i6 u)<|(yL (zO (zG (KN ?_))));exact zD<|fE a λv a=>zA (i6 v)<|jn<|me a () (H.U [0]);cases a;exact zX<|zL<|zL<|zS<|zG<|mt () (H.U []);rintro _ ρ _ H;have a:=i;refine SR<|zA (i6 f)<|zB (i6 f)<|RM ?_;cases a;exact zH<|p1z ⟨Z,H.U []⟩
theorem Fhkw {e:List Int}{d r:Int}{c:Value}(a:Fhk e d=some r)(H:Hd O w w S [aFi c e]):
  Rt 269 [c,i6 d] (i6 r) w O S []:=by
 refine CW 19 Tryz.func269 ?_;refine SR<|zB (i6 0)<|RM<|jk a H (rg [4,15]) (λx (y:Unit)=>[]) (λx y=>[]) [] (λi a=>?_) ?_;refine SR<|zA c<|ln a (H.im 0 Z) u50 λj a=>zA (i6 0)<|RM<|zI<|lo a H (rg [4,2,8,11]) (λx (y:Unit)=>[(8,i6 x)]) (λx y=>[]) [0] () (H.U [0]) ?_;clear H a;rintro k b _ ρ m H a;have H:=un1 H;refine SR<|fF a λ_ a=>RM<|SQ<|WJ a (λa=>WZ<|SQ<|zI<|SR<|zA (i6 b)<|zB (i6 b)<|RM<|SR<|zA (i6 d)<|zA c<|zA (i6 b)<|bE a λf g a=>rea H (H.im 0 Z) (i6 f) g u50 sz3 gW λo _ H=>eF a λ_ a=>RM<|WJ a (λa=>SR<|zA (i6 b)<|zB (i6 b)<|RM ?_) λa=>?_) λa=>?_;cases a;exact zH<|zN<|zF<|zF<|zN<|zF<|p1z ⟨Z,H.U []⟩;exact yE<|zO<|zG<|KN<|zD<|fE a λh a=>zA (i6 h)<|jn<|me a () (H.U [0]);exact zX<|zL<|zL<|zS<|zG<|me a () (H.U []);rintro _ _ ρ _ H a;refine SR<|zB (i6 (-1))<|RM ?_;cases a;exact zH<|p1z ⟨Z,H.U []⟩
theorem Fc5w {d:List Int}{b:Int}{c:Value}{r:Bool}(a:Fc5 d b=some r)(H:Hd O w w S [aFi c d]):
  Rt 230 [c,i6 b] (vb r) w O S []:=by
 refine CW 9 Tryz.func230 ?_;refine SR<|zB (vb false)<|RM<|SR<|zA c<|zA (i6 b)<|bE a λg e a=>RC (fD Tryz.func269) (Fhkw e (H.W [] [0])) H λh H=>jR a λf a=>zB (vb f)<|RM ?_;cases a;exact zH<|p1z ⟨Z,H.U []⟩
theorem Fedw {b:Param}{d e:Value}{r:Int}(a:Fed b=some r)(H:Hd O w w S [aO d b.Parts,dH e b.Names]):
  Rt 167 [.agg [sb b.Name,i6 b.Kind,d,i6 b.First,i6 b.Every,i6 b.Times,i6 b.Step,e].toArray] (i6 r) w O S []:=by
 refine CW 112 Tryz.func167 ?_;refine SR<|xb (yJ (cs:=[sb b.Name,i6 b.Kind,d,i6 b.First,i6 b.Every,i6 b.Times,i6 b.Step,e]) Z H) λh _ H=>zB (i6 0)<|RM<|SQ<|zI<|SR<|zJ (jM Z)<|Ld pV H 2 2 Z Z<|ln a (H.im 0 Z) sZ λ_ a=>eF a λv a=>zB (vb v)<|RM<|WJ a (λa=>SR<|zB (i6 13)<|RM ?_) λa=>?_;cases a;exact zH<|zN<|zF<|p1z ⟨Z,H.U []⟩;refine SR<|zJ (jM Z)<|Ld pV H 2 2 Z Z<|ln a (H.im 0 Z) sZ λ_ a=>dR a λz a=>zB (vb z)<|RM<|WJ a (λa=>SR<|zB (i6 3)<|RM ?_) λa=>?_;cases a;exact zH<|zN<|zF<|p1z ⟨Z,H.U []⟩;refine yE<|zO<|zG<|KN<|jk a H (rg [2,1,4,1,18,33]) (λx (y:Unit)=>[]) (λx y=>[]) [0,1,2] (λa9 a=>?_) ?_;refine SR<|zJ (jM Z)<|Ld pV H 2 2 Z Z<|ln a (H.im 0 Z) sZ λ_ a=>zA (i6 0)<|RM<|zI<|lo a H (rg [2,1,4,1,21,30]) (λx (y:Unit)=>[(21,i6 x)]) (λx y=>[]) [0,1,2] () (H.U [0,1,2]) ?_;clear H a;rintro _ j _ ρ _ H a;have H:=un3 H;refine SR<|fF a λ_ a=>RM<|SQ<|WJ a (λa=>WZ<|SQ<|zI<|SR<|bE a λc o a=>?_) λa=>?_;obtain⟨k,m,_,bf,A,B,C,D,E⟩:=yQ (H.im 0 Z) o;obtain rfl:=kC B;have H:=H.fz (.at k (m+j.toNat*4) _) ⟨C,D,E⟩;refine ix sZ aU A o<|zJ (yI (zW (cs:=[i6 c.Frame,i6 c.Word,i6 c.Low,i6 c.Bits]) uM Z aU Z (H.im 3 Z).2.2) Z)<|xb (zZ tK H) λs _ H=>xu (zT (vs:=[i6 c.Frame,i6 c.Word,i6 c.Low,i6 c.Bits]) H 4 Z aU Z Z Z ⟨Z,Z,Z,Z,T1⟩ Z) λ_ H=>RM<|bE a λF a G=>jo H (rg [25,25]) (λ(g:Unit)=>[(49,vb F)]) (λg=>[]) [0,1,2] ?_ ?_
 refine zD<|zJ (aCm Z)<|Ld gW H 4 0 Z Z<|bE a λ_ I a=>RC aHo (aRf I (H.W [] [])) H λ_ H=>eX a λ_ a=>bE a λJ a K=>xA 6 [29,30,31,32,33,34] [(34,vb J)] (λwl=>Hd O w wl S [aO d b.Parts,dH e b.Names,.blk h [sb b.Name,i6 b.Kind,d,i6 b.First,i6 b.Every,i6 b.Times,i6 b.Step,e] 128,.fz (.at k (m+j.toNat*4) [i6 c.Frame,i6 c.Word,i6 c.Low,i6 c.Bits]),.blk s [i6 c.Frame,i6 c.Word,i6 c.Low,i6 c.Bits] 251]) ?_ ?_;refine RJ a (λa=>zM<|zM<|zM<|zM<|pt (vb true) ?_) λa=>?_;cases a;exact jn<|meet ⟨(yB Z yF),H.U (rg [0,5])⟩;refine zJ (aCl Z)<|Ld gW H 4 1 Z Z<|bE a λ_ L a=>RC aHo (aRf L (H.W [] [])) H λ_ H=>eX a λM a=>pf (vb M) ?_;cases a;exact jn<|meet ⟨(yB Z yF),H.U (rg [0,5])⟩;rintro ρ _ H;have a:=K;refine bE a λN a P=>xA 6 [35,36,37,38,39,40] [(40,vb N)] (λwl=>Hd O w wl S [aO d b.Parts,dH e b.Names,.blk h [sb b.Name,i6 b.Kind,d,i6 b.First,i6 b.Every,i6 b.Times,i6 b.Step,e] 128,.fz (.at k (m+j.toNat*4) [i6 c.Frame,i6 c.Word,i6 c.Low,i6 c.Bits]),.blk s [i6 c.Frame,i6 c.Word,i6 c.Low,i6 c.Bits] 251]) ?_ ?_;refine RJ a (λa=>zM<|zM<|zM<|zM<|pt (vb true) ?_) λa=>?_;cases a;exact jn<|meet ⟨(yB Z yF),H.U (rg [0,5])⟩;refine zJ (aCj Z)<|Ld gW H 4 2 Z Z<|bE a λ_ Q a=>RC aHo (aRf Q (H.W [] [])) H λ_ H=>eX a λR a=>pf (vb R) ?_;cases a;exact jn<|meet ⟨(yB Z yF),H.U (rg [0,5])⟩;rintro ρ _ H;have a:=P;refine RJ a (λa=>zM<|zM<|zM<|zM<|zM<|zM<|zM<|pt (vb true) ?_) λa=>?_
 cases a;exact jn<|mt () (H.U [0,1,2]);refine zJ (aCi Z)<|Ld gW H 4 3 Z Z<|zJ (aCj Z)<|Ld gW H 4 2 Z Z<|kH a λ_ a=>bE a λ_ T a=>RC aHo (aRf T (H.W [] [])) H λ_ H=>eX a λU a=>pf (vb U) ?_;cases a;exact jn<|mt () (H.U [0,1,2]);rintro _ ρ _ H;have H:=un3 H;have a:=G;refine WJ a (λa=>SR<|zB (i6 9)<|RM ?_) λa=>?_;cases a;exact zH<|zN<|zF<|zF<|zN<|zF<|p1z ⟨Z,H.U []⟩;exact yE<|zO<|zG<|KN<|zD<|fE a λV a=>zA (i6 V)<|jn<|me a () (H.U [0,1,2]);exact zX<|zL<|zL<|zS<|zG<|me a () (H.U [0,1,2]);rintro _ _ ρ _ H a;have H:=un3 H;refine SQ<|SR<|lb H 2 Z eP fO<|bE a λ_ X a=>RC en229 (Fazw X (H.W [] [0,1])) H λ_ H=>dR a λ_ a=>RM<|WJ a (λa=>SR<|zB (i6 3)<|RM ?_) λa=>?_;cases a;exact zH<|zF<|p1z ⟨Z,H.U []⟩;refine WZ<|SR<|lE a λ_ Y a=>?_;subst Y;refine xv (kl aUl [1,2,4,8,16] u50 el3 H) λn _ H=>zJ (aCh Z)<|Ld gW H 2 4 Z Z ?_;have aa:=H;have H:=H.freeze (i:=3) Z;refine bE a λt ab a=>RC (fD Tryz.func230) (Fc5w ab (H.W [] [3])) aa λ_ H=>zB (vb t)<|RM<|SQ<|bE a λac a ad=>jo H (rg [58,31]) (λ(g:Unit)=>[(88,vb ac)]) (λg=>[]) [0,1,2] ?_ ?_;refine zD<|zA (vb t)<|eX a λ_ a=>bE a λae a af=>xA 9 [60,61,62,63,64,65,66,67,68] [(68,vb ae)] (λwl=>Hd O w wl S [aO d b.Parts,dH e b.Names,.blk h [sb b.Name,i6 b.Kind,d,i6 b.First,i6 b.Every,i6 b.Times,i6 b.Step,e] 128,.own (Rp.int .i64) n 3 ([1,2,4,8,16]:List Int)]) ?_ ?_;refine RJ a ?_ ?_<;>intro a
 refine zM<|zM<|zM<|zM<|zM<|zM<|zM<|pt (vb true) ?_;cases a;exact jn<|meet ⟨(yB Z yF),H.U [0,1,2,3]⟩;refine zJ (aIz Z)<|Ld gW H 2 3 Z Z<|zJ (aCh Z)<|Ld gW H 2 4 Z Z<|kH a λ_ a=>bE a λ_ ag a=>RC aHo (aRf ag (H.W [] [])) H λ_ H=>eX a λah a=>pf (vb ah) ?_;cases a;exact jn<|meet ⟨(yB Z yF),H.U [0,1,2,3]⟩;rintro ρ _ H;have a:=af;refine bE a λai a aj=>xA 6 [69,70,71,72,73,74] [(74,vb ai)] (λwl=>Hd O w wl S [aO d b.Parts,dH e b.Names,.blk h [sb b.Name,i6 b.Kind,d,i6 b.First,i6 b.Every,i6 b.Times,i6 b.Step,e] 128,.own (Rp.int .i64) n 3 ([1,2,4,8,16]:List Int)]) ?_ ?_;refine RJ a (λa=>zM<|zM<|zM<|zM<|pt (vb true) ?_) λa=>?_;cases a;exact jn<|meet ⟨(yB Z yF),H.U [0,1,2,3]⟩;refine zJ (mV Z)<|Ld gW H 2 5 Z Z<|bE a λ_ ak a=>RC aHo (aRf ak (H.W [] [])) H λ_ H=>eX a λal a=>pf (vb al) ?_;cases a;exact jn<|meet ⟨(yB Z yF),H.U [0,1,2,3]⟩;rintro ρ _ H;have a:=aj;refine bE a λam a an=>xA 5 [75,76,77,78,79] [(79,vb am)] (λwl=>Hd O w wl S [aO d b.Parts,dH e b.Names,.blk h [sb b.Name,i6 b.Kind,d,i6 b.First,i6 b.Every,i6 b.Times,i6 b.Step,e] 128,.own (Rp.int .i64) n 3 ([1,2,4,8,16]:List Int)]) ?_ ?_;refine RJ a (λa=>zM<|zM<|zM<|pt (vb true) ?_) λa=>?_;cases a;exact jn<|meet ⟨(yB Z yF),H.U [0,1,2,3]⟩;refine zJ (qZ Z)<|Ld gW H 2 6 Z Z<|fF a λao a=>pf (vb ao) ?_;cases a;exact jn<|meet ⟨(yB Z yF),H.U [0,1,2,3]⟩;rintro ρ _ H;have a:=an;refine RJ a ?_ ?_<;>intro a
 refine zM<|zM<|zM<|zM<|zM<|zM<|zM<|pt (vb true) ?_;cases a;exact jn<|mt () (H.U [0,1,2]);refine zJ (qZ Z)<|Ld gW H 2 6 Z Z<|eF a λap a=>zJ (mV Z)<|Ld gW H 2 5 Z Z<|eF a λaq a=>RLb a (aHz (p:=ap) (q:=aq) u4 Z Z) λar a=>pf (vb ar) ?_;cases a;exact jn<|mt () (H.U [0,1,2]);rintro _ ρ _ H;have H:=un3 H;have a:=ad;refine WJ a (λa=>SR<|zB (i6 9)<|RM ?_) λa=>?_;cases a;exact zH<|zF<|p1z ⟨Z,H.U []⟩;refine WZ<|jk a H (rg [2,1,7,1,89,23]) (λx (y:Unit)=>[]) (λx y=>[]) [] (λ_ a=>?_) ?_;refine SR<|zJ (jM Z)<|Ld pV H 2 2 Z Z<|ln a (H.im 0 Z) sZ λ_ a=>zA (i6 0)<|RM<|zI<|lo a H (rg [2,1,7,1,92,20]) (λx (y:Unit)=>[(92,i6 x)]) (λx y=>[]) [0,1,2] () (H.U [0,1,2]) ?_;clear H a;rintro _ au _ ρ _ H a;have H:=un3 H;refine SR<|fF a λ_ a=>RM<|SQ<|WJ a (λa=>WZ<|SQ<|zI<|SR<|bE a λf u a=>?_) λa=>?_;obtain⟨av,aw,_,_,ax,ay,az,a0,a1⟩:=yQ (H.im 0 Z) u;obtain rfl:=kC ay;have H:=H.fz (.at av (aw+au.toNat*4) _) ⟨az,a0,a1⟩;refine ix sZ aU ax u<|zJ (yI (zW (cs:=[i6 f.Frame,i6 f.Word,i6 f.Low,i6 f.Bits]) uM Z aU Z (H.im 3 Z).2.2) Z)<|xb (zZ tK H) λ_ _ H=>xu (zT (vs:=[i6 f.Frame,i6 f.Word,i6 f.Low,i6 f.Bits]) H 4 Z aU Z Z Z ⟨Z,Z,Z,Z,T1⟩ Z) λ_ H=>RM<|bE a λa2 a a3=>jo H (rg [96,15]) (λ(g:Unit)=>[(110,vb a2)]) (λg=>[]) [0,1,2] ?_ ?_;refine zD<|zJ (qZ Z)<|Ld gW H 2 6 Z Z<|dR a λ_ a=>RJ a ?_ ?_<;>intro a
 refine zM<|zM<|zM<|zM<|zM<|zM<|zM<|zM<|zM<|zM<|pt (vb true) ?_;cases a;exact jn<|mt () (H.U [0,1,2]);refine zJ (aCl Z)<|Ld gW H 4 1 Z Z<|zJ (mV Z)<|Ld gW H 2 5 Z Z<|kH a λ_ a=>zJ (qZ Z)<|Ld gW H 2 6 Z Z<|tY a λ_ a=>fE a λ_ a=>dR a λa4 a=>pf (vb a4) ?_;cases a;exact jn<|mt () (H.U [0,1,2]);rintro _ ρ _ H;have H:=un3 H;have a:=a3;refine WJ a (λa=>SR<|zB (i6 9)<|RM ?_) λa=>?_;cases a;exact zH<|zN<|zF<|zF<|zN<|zF<|p1z ⟨Z,H.U []⟩;exact yE<|zO<|zG<|KN<|zD<|fE a λa5 a=>zA (i6 a5)<|jn<|me a () (H.U [0,1,2]);exact zX<|zL<|zL<|zS<|zG<|me a () (H.U []);rintro _ _ ρ _ H a;refine SR<|zB (i6 0)<|RM ?_;cases a;exact zH<|p1z ⟨Z,H.U []⟩
theorem Fd8w {e:List Str}{c:Str}{d:Value}{r:Int}(a:Fd8 e c=some r)(H:Hd O w w S [dH d e]):
  Rt 201 [d,sb c] (i6 r) w O S []:=by
 refine CW 19 Tryz.func201 ?_;refine SR<|zB (i6 0)<|RM<|jk a H (rg [4,15]) (λx (y:Unit)=>[]) (λx y=>[]) [] (λi a=>?_) ?_;refine SR<|zA d<|ln a (H.im 0 Z) u29 λj a=>zA (i6 0)<|RM<|zI<|lo a H (rg [4,2,8,11]) (λx (y:Unit)=>[(8,i6 x)]) (λx y=>[]) [0] () (H.U [0]) ?_;clear H a;rintro k b _ ρ m H a;have H:=un1 H;refine SR<|fF a λ_ a=>RM<|SQ<|WJ a (λa=>WZ<|SQ<|zI<|SR<|zA (i6 b)<|zB (i6 b)<|RM<|SR<|zA (sb c)<|zA d<|zA (i6 b)<|bE a λf g a=>rea H (H.im 0 Z) (sb f) g u29 sz9 dE λo _ H=>RLb a (xN (s1:=c) (s2:=f) Z Z) λ_ a=>RM<|WJ a (λa=>SR<|zA (i6 b)<|zB (i6 b)<|RM ?_) λa=>?_) λa=>?_;cases a;exact zH<|zN<|zF<|zF<|zN<|zF<|p1z ⟨Z,H.U []⟩;exact yE<|zO<|zG<|KN<|zD<|fE a λh a=>zA (i6 h)<|jn<|me a () (H.U [0]);exact zX<|zL<|zL<|zS<|zG<|me a () (H.U []);rintro _ _ ρ _ H a;refine SR<|zB (i6 (-1))<|RM ?_;cases a;exact zH<|p1z ⟨Z,H.U []⟩
theorem Fasw {d:List Str}{b:Str}{c:Value}{r:Bool}(a:Fas d b=some r)(H:Hd O w w S [dH c d]):
  Rt 132 [c,sb b] (vb r) w O S []:=by
 refine CW 9 Tryz.func132 ?_;refine SR<|zB (vb false)<|RM<|SR<|zA c<|zA (sb b)<|bE a λg e a=>RC en201 (Fd8w e (H.W [] [0])) H λh H=>jR a λf a=>zB (vb f)<|RM ?_;cases a;exact zH<|p1z ⟨Z,H.U []⟩
theorem Fdww {d:Param}{e f:Value}{r:Int}(c:Fdw d=some r)(H:Hd O w w S [aO e d.Parts,dH f d.Names]):
  Rt 168 [.agg [sb d.Name,i6 d.Kind,e,i6 d.First,i6 d.Every,i6 d.Times,i6 d.Step,f].toArray] (i6 r) w O S []:=by
 refine CW 82 Tryz.func168 ?_;refine SR<|xb (yJ (cs:=[sb d.Name,i6 d.Kind,e,i6 d.First,i6 d.Every,i6 d.Times,i6 d.Step,f]) Z H) λi _ H=>zB (i6 0)<|RM<|SR<|lb H 2 Z eP fO<|bE c λg t c=>RC en229 (Fazw t (H.W [] [0,1])) H λ_ H=>zB (i6 g)<|RM<|SQ<|bE c λu c z=>sJ H (rg [8,31]) [(38,vb u)] ?_ ?_;refine zD<|zJ (jQ Z)<|Ld gW H 2 1 Z Z<|eF c λ_ c=>bE c λA c B=>xA 5 [11,12,13,14,15] [(15,vb A)] (λwl=>Hd O w wl S [aO e d.Parts,dH f d.Names,.blk i [sb d.Name,i6 d.Kind,e,i6 d.First,i6 d.Every,i6 d.Times,i6 d.Step,f] 128]) ?_ ?_;refine RJ c (λc=>zA (i6 g)<|bE c λ_ C c=>zJ (kK (j:=g) (q:=4) Z Z C)<|dK c λD c=>pt (vb D) ?_) λc=>?_;cases c;exact jn<|meet ⟨(yB Z yF),H.U [0,1,2]⟩;refine zM<|zM<|zM<|pf (vb false) ?_;cases c;exact jn<|meet ⟨(yB Z yF),H.U [0,1,2]⟩;rintro ρ _ H;have c:=B;refine bE c λE c F=>xA 9 [16,17,18,19,20,21,22,23,24] [(24,vb E)] (λwl=>Hd O w wl S [aO e d.Parts,dH f d.Names,.blk i [sb d.Name,i6 d.Kind,e,i6 d.First,i6 d.Every,i6 d.Times,i6 d.Step,f] 128]) ?_ ?_;refine RJ c (λc=>zM<|zM<|zM<|zM<|zM<|zM<|zM<|pt (vb true) ?_) λc=>?_;cases c;exact jn<|meet ⟨(yB Z yF),H.U [0,1,2]⟩;refine zJ (jQ Z)<|Ld gW H 2 1 Z Z<|eF c λ_ c=>RJ c (λc=>zA (i6 g)<|dK c λn c=>pt (vb n)<|pf (vb n) ?_) λc=>?_;cases c;exact jn<|meet ⟨(yB Z yF),H.U [0,1,2]⟩;refine zM<|zM<|pf (vb false)<|pf (vb false) ?_;cases c;exact jn<|meet ⟨(yB Z yF),H.U [0,1,2]⟩
 rintro ρ _ H;have c:=F;refine RJ c (λc=>zM<|zM<|zM<|zM<|zM<|zM<|zM<|zM<|zM<|zM<|zM<|zM<|pt (vb true) ?_) λc=>?_;cases c;exact jn<|mt () (H.U [0,1,2]);refine zJ (jQ Z)<|Ld gW H 2 1 Z Z<|eF c λ_ c=>bE c λG c I=>xA 5 [29,30,31,32,33] [(33,vb G)] (λwl=>Hd O w wl S [aO e d.Parts,dH f d.Names,.blk i [sb d.Name,i6 d.Kind,e,i6 d.First,i6 d.Every,i6 d.Times,i6 d.Step,f] 128]) ?_ ?_;refine RJ c (λc=>zM<|zM<|zM<|pt (vb true) ?_) λc=>?_;cases c;exact jn<|meet ⟨(yB Z yF),H.U [0,1,2]⟩;refine zJ (jQ Z)<|Ld gW H 2 1 Z Z<|eF c λJ c=>pf (vb J) ?_;cases c;exact jn<|meet ⟨(yB Z yF),H.U [0,1,2]⟩;rintro ρ _ H;have c:=I;refine RJ c (λc=>zA (i6 g)<|eF c λo c=>pt (vb o)<|pf (vb o) ?_) λc=>?_;cases c;exact jn<|mt () (H.U [0,1,2]);refine zM<|zM<|pf (vb false)<|pf (vb false) ?_;cases c;exact jn<|mt () (H.U [0,1,2]);rintro _ ρ _ H;have c:=z;refine WJ c (λc=>SR<|zB (i6 2)<|RM ?_) λc=>?_;cases c;exact zH<|zF<|p1z ⟨Z,H.U []⟩;refine WZ<|SQ<|SR<|zJ (jQ Z)<|Ld gW H 2 1 Z Z<|dK c λ_ c=>RM<|WJ c (λc=>SQ<|SR<|zJ (jK Z)<|Ld jT H 2 7 Z Z<|ln c (H.im 1 Z) u29 λ_ c=>dR c λ_ c=>RM<|WJ c (λc=>SR<|zB (i6 2)<|RM ?_) λc=>?_) λc=>?_;cases c;exact zH<|zF<|zF<|p1z ⟨Z,H.U []⟩;refine WZ<|SR<|zB (i6 0)<|RM ?_;cases c;exact zH<|zF<|p1z ⟨Z,H.U []⟩;refine WZ<|SQ<|zI<|SR<|zJ (jK Z)<|Ld jT H 2 7 Z Z<|ln c (H.im 1 Z) u29 λ_ c=>eF c λK c=>zB (vb K)<|RM<|WJ c ?_ ?_<;>intro c
 refine SR<|zB (i6 13)<|RM ?_;cases c;exact zH<|zN<|zF<|p1z ⟨Z,H.U []⟩;refine bE c λL c M=>sJ H (rg [51,13]) [(51,vb L)] ?_ ?_;have p:=H;have H:=H.rb;have a0:=H;refine yV H (rg [0,13]) (kz [0,1,0,0,0,0,1,0,0,0,0,0,0]) mixed ?_;refine XQ (jK Z)<|XR jT H 2 7 Z Z<|lE c λN P c=>?_;obtain⟨_,a2,Q⟩:=SlF.len ((H.im 1 Z));refine XQ (yI (dM u29 Q) (congrArg (Value.int .i64) P))<|lE c λR T c=>XQ (xX (vJ (a:=N) (b:=64) Z Z) T)<|MxM.XL_splitb (b:=R) Z Z Z Z (λk=>?_) (λk=>?_);have c:=jG k c;refine XO<|MxM.xZ oS Z Z Z ?_;refine XO<|XO<|XO<|XO<|XQ (dA (v:=vb true) Z Z)<|XQ (yT (v:=vb true) Z)<|nJ p H λa3 H=>?_;cases c;exact zG<|mt () (H.U [0,1,2]);have c:=jJ k c;refine XQ (jK Z)<|XR jT H 2 7 Z Z<|lE c λU V c=>?_;obtain⟨a4,a5,X⟩:=SlF.len ((H.im 1 Z));refine XQ (yI (dM u29 X) (congrArg (Value.int .i64) V))<|XM (i6 g)<|bE c λY aa c=>XQ (kN (j:=1) (q:=g) Z Z aa)<|lE c λs ab c=>XQ (xX (vJ (a:=U) (b:=Y) Z Z) ab)<|XQ (dX (v:=vb s) Z Z)<|XQ (yT (v:=vb s) Z)<|nJ p H λ_ H=>?_;cases c;exact zG<|mt () (H.U [0,1,2]);rintro _ ρ _ H;have c:=M;refine WJ c (λc=>SR<|zB (i6 3)<|RM ?_) λc=>?_;cases c;exact zH<|zN<|zF<|p1z ⟨Z,H.U []⟩;refine yE<|zO<|zG<|KN<|jk c H (rg [2,1,4,2,64,18]) (λx (y:Unit)=>[]) (λx y=>[]) [] (λ_ c=>?_) ?_;refine SR<|zJ (jK Z)<|Ld jT H 2 7 Z Z<|ln c (H.im 1 Z) u29 λa9 c=>zA (i6 0)<|RM<|zI<|lo c H (rg [2,1,4,2,67,15]) (λx (y:Unit)=>[(67,i6 x)]) (λx y=>[]) [0,1,2] () (H.U [0,1,2]) ?_
 clear H c;rintro _ m _ ρ _ H c;have H:=un3 H;refine SR<|fF c λ_ c=>RM<|SQ<|WJ c (λc=>WZ<|SQ<|zI<|SR<|zA (i6 m)<|bE c λh ac c=>rea H (H.im 1 Z) (sb h) ac u29 sz9 dE λ_ _ H=>zB (i6 m)<|zB (sb h)<|RM<|SQ<|SR<|zA (sb h)<|bE c λbf ad c=>RC en166 (Fblw ad (H.W [] [])) H λ_ H=>eX c λ_ c=>RM<|WJ c (λc=>SR<|zB (i6 8)<|RM ?_) λc=>?_) λc=>?_;cases c;exact zH<|zF<|zN<|zF<|zF<|zN<|zF<|p1z ⟨Z,H.U []⟩;refine WZ<|SR<|zJ (jK Z)<|Ld jT H 2 7 Z Z<|zA (i6 m)<|bE c λae af c=>qM Z Z (jA u29 sz9 (H.im 1 Z) Z Z af) ?_;rintro ag ah;have H:=H.fz (.sl Rp.str ag ae) ah;refine zA (sb h)<|bE c λ_ ai c=>RC aQs (Fasw ai (H.W [] [4])) H λ_ H=>RM<|WJ c (λc=>SR<|zB (i6 5)<|RM ?_) λc=>?_;cases c;exact zH<|zN<|zF<|zF<|zN<|zF<|p1z ⟨Z,H.U []⟩;exact yE<|zO<|zG<|KN<|zD<|fE c λaj c=>zA (i6 aj)<|jn<|me c () (H.U [0,1,2]);exact zX<|zL<|zL<|zS<|zG<|me c () (H.U []);rintro _ _ ρ _ H c;refine SR<|zB (i6 0)<|RM ?_;cases c;exact zH<|p1z ⟨Z,H.U []⟩
theorem Fdaw {b:Param}{f g:Value}{r:Int}(a:Fda b=some r)(H:Hd O w w S [aO f b.Parts,dH g b.Names]):
  Rt 106 [.agg [sb b.Name,i6 b.Kind,f,i6 b.First,i6 b.Every,i6 b.Times,i6 b.Step,g].toArray] (i6 r) w O S []:=by
 refine CW 45 Tryz.func106 ?_;refine SR<|xb (yJ (cs:=[sb b.Name,i6 b.Kind,f,i6 b.First,i6 b.Every,i6 b.Times,i6 b.Step,g]) Z H) λ_ _ H=>zB (i6 0)<|RM<|SQ<|SR<|zJ (tV Z)<|Ld dE H 2 0 Z Z<|bE a λ_ m a=>RC en166 (Fblw m (H.W [] [])) H λ_ H=>eX a λ_ a=>RM<|WJ a (λa=>SR<|zB (i6 8)<|RM ?_) λa=>?_;cases a;exact zH<|zF<|p1z ⟨Z,H.U []⟩;refine WZ<|SQ<|SR<|zJ (jQ Z)<|Ld gW H 2 1 Z Z<|bE a λ_ n a=>RC aHo (aRf n (H.W [] [])) H λN H=>eX a λP a=>RM<|WJ a (λa=>SR<|zB (i6 7)<|RM ?_) λa=>?_;cases a;exact zH<|zF<|p1z ⟨Z,H.U []⟩;refine WZ<|SQ<|SR<|lb H 2 Z eP fO<|bE a λd o a=>RC (fD Tryz.func167) (Fedw o (H.W [] [0,1])) H λQ H=>zB (i6 d)<|RM<|SR<|zA (i6 d)<|dK a λ_ a=>RM<|WJ a (λa=>SR<|zA (i6 d)<|zB (i6 d)<|RM ?_) λa=>?_;cases a;exact zH<|zF<|p1z ⟨Z,H.U []⟩;refine WZ<|SQ<|SR<|lb H 2 Z eP fO<|bE a λe p a=>RC (fD Tryz.func168) (Fdww p (H.W [] [0,1])) H λT H=>zB (i6 e)<|RM<|SR<|zA (i6 e)<|dK a λU a=>RM<|WJ a (λa=>SR<|zA (i6 e)<|zB (i6 e)<|RM ?_) λa=>?_;cases a;exact zH<|zF<|p1z ⟨Z,H.U []⟩;refine WZ<|SR<|nZ Z Z (rJ H) ?_;rintro _ V ⟨h,rfl,H⟩;refine zB (.map (some h))<|RM<|SR<|lb H 2 Z eP fO<|bE a λX q a=>cAa en157 (Fbbw q (H.W [] [0,1])) λi Y s=>?_;have H:=H.back1 [0,1] Z s;refine zB i<|RM<|jk a H (rg [2,1,8,1,30,12]) (λx (y:Unit)=>[]) (λx y=>[]) [4] (λ_ a=>?_) ?_
 refine SR<|zA i ?_;obtain⟨_,_,t⟩:=Sr.len (Sr.xE (H.im 4 Z));refine RLi a (dM u131 t) λ_ a=>zA (i6 0)<|RM<|zI<|lo a H (rg [2,1,8,1,32,10]) (λx (y:Unit)=>[(32,i6 x.1)]) (λx y=>[.mp h (eY dJ (λv=>Value.int .i64 v) x.2)]) [0,5] () (H.U [3,4]) ?_;clear H a;rintro _ ⟨af,_⟩ _ ρ _ H a;have H:=un2 H;refine SR<|fF a λ_ a=>RM<|SQ<|WJ a (λa=>WZ<|SQ<|zI<|SR<|bE a λc k a=>?_) λa=>?_;obtain⟨_,_,_,u,z,A⟩:=wC (H.im 1 Z) k;obtain⟨j,rfl,B⟩:=kZ z;have H:=H.fzs [.sl dC j c.Places] ⟨B,T1⟩;refine ix u131 kQ u k<|zJ (yI (zW (cs:=[i6 c.Param,i6 c.Index,i6 c.Frame,j]) uN Z kQ Z A) Z)<|xb (zZ aAz H) λ_ _ H=>xu (zT (vs:=[i6 c.Param,i6 c.Index,i6 c.Frame,j]) H 3 Z kQ Z Z Z ⟨Z,Z,Z,(yP (H.im 2 Z)),T1⟩ Z) λ_ H=>RM<|SR<|zA (.map (some h))<|zJ (mO Z)<|Ld uQ H 3 3 Z Z ?_;obtain⟨⟨_,_⟩,C,a⟩:=yA a;refine cAz en158 (Fbmw C (H.W [0] [2])) λ_ D=>?_;have H:=un4<|H.back [0] [2] Z D;refine eX a λ_ a=>RM<|WJ a (λa=>SR<|zB (i6 5)<|RM ?_) λa=>?_;cases a;exact zH<|zN<|zF<|zF<|zN<|zF<|p1z ⟨Z,H.U []⟩;exact yE<|zO<|zG<|KN<|zD<|fE a λE a=>zA (i6 E)<|jn<|me a () (H.U [3,0]);exact zX<|zL<|zL<|zS<|zG<|me a () (H.U [1]);rintro _ _ ρ _ H a;have H:=un1 H;refine SQ<|SR<|zA i ?_;obtain⟨_,_,F⟩:=Sr.len (Sr.xE (H.im 0 Z));refine RLi a (dM u131 F) λ_ a=>eF a λ_ a=>RM<|WJ a (λa=>SR<|zB (i6 13)<|RM ?_) λa=>?_;cases a;exact zH<|zF<|p1z ⟨Z,H.U []⟩
 refine WZ<|SR<|zB (i6 0)<|RM ?_;cases a;exact zH<|p1z ⟨Z,H.U []⟩
theorem Fe8w {a b:Param}{c d e f:Value}{g:Nat}{r:Bool}(h:Fe8 a b=some r)(H:Hd O w w S [.blk g [sb b.Name,i6 b.Kind,e,i6 b.First,i6 b.Every,i6 b.Times,i6 b.Step,f] 128,aO c a.Parts,dH d a.Names,aO e b.Parts,dH f b.Names]):
  Rt 155 [.agg [sb a.Name,i6 a.Kind,c,i6 a.First,i6 a.Every,i6 a.Times,i6 a.Step,d].toArray,gK g] (vb r) w O S [.blk g [sb b.Name,i6 b.Kind,e,i6 b.First,i6 b.Every,i6 b.Times,i6 b.Step,f] 128]:=by
 refine CW 9 Tryz.func155 ?_;refine SR<|xb (yJ (cs:=[sb a.Name,i6 a.Kind,c,i6 a.First,i6 a.Every,i6 a.Times,i6 a.Step,d]) Z H) λj k H=>zB (vb false)<|RM<|SR<|zJ (tV Z)<|Ld dE H 5 0 Z Z<|zJ (tV Z)<|Ld dE H 0 0 Z Z<|RLb h (xN (s1:=a.Name) (s2:=b.Name) Z Z) λi h=>zB (vb i)<|RM ?_;cases h;exact zH<|p1z ⟨Z,H.U [0]⟩
end Go.Proofs.YtbjofgmdhbiekaaGreatDoor.L
