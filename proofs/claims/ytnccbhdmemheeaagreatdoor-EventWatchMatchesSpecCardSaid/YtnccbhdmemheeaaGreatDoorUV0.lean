/- Walks that the claim stands on; no condition beyond those stated. -/
import Derived.Test.YtnccbhdmemheeaaGreatDoorUP
import Derived.Test.YtnccbhdmemheeaaGreatDoorXVq
import Derived.Test.YtnccbhdmemheeaaGreatDoorXVr
namespace Go.Proofs.YtnccbhdmemheeaaGreatDoor.L
open Go.RowKit Go.OB Go.Lf
set_option maxRecDepth 100000
set_option maxHeartbeats 4000000
abbrev vb:=Value.bool
theorem T1:True:=trivial
abbrev cE (c:Cond):Cond:=Cond.mk c.Kind c.Name c.Other c.Op c.N c.Frames c.Kids
theorem Z {α:Sort _}{a:α}:a=a:=rfl
variable {O S:List Nat}{w:World}
abbrev En (f:FuncId):Prop:=Go.OB.Enters Tryz.prog f
theorem CW {P:Program}{f:FuncId}{fn:Func}{c:Code}{args:List Value}{w:World}{R:Ending->World->Prop}(N:Nat)(hf:P.funcs[f]? =some fn)(h:WP P N c (aAk P fn.results R) (aOe args) w)(hb:fn.body=some c:=by exact rfl)(hN:fn.ntmps=N:=by exact rfl)(hl:Nat.ble args.length N=true:=by exact rfl):Calls P f args.toArray w R:=tJ N hf hb hN hl h
theorem mt {W:List Nat}{ρ ρ':Env}{G:Type}{S:G->List (Nat×Value)}{B:G->Prop}(g:G)(h:B g)(hs:Sl ρ' (S g):=by repeat (first |exact yV|refine yJ rfl ?_))(hf:Fr W ρ ρ':=by repeat' (first |with_reducible exact aFf|refine aSj rfl ?_|refine aJv rfl rfl ?_)):Fr W ρ ρ'/\ ∃g,Sl ρ' (S g)/\B g:=⟨hf,g,hs,h⟩
theorem ml {W:List Nat}{ρ ρ':Env}{G:Type}{S:G->List (Nat×Value)}{B C:G->Prop}{μ:G->Nat}{n:Nat}(g:G)(h:B g)(c:C g)(hs:Sl ρ' (S g):=by repeat (first |exact yV|refine yJ rfl ?_))(hn:μ g<n:=by exact Nat.lt_succ_self _)(hf:Fr W ρ ρ':=by repeat' (first |with_reducible exact aFf|refine aSj rfl ?_|refine aJv rfl rfl ?_)):Fr W ρ ρ'/\ ∃g,Sl ρ' (S g)/\(B g/\C g)/\μ g<n:=⟨hf,g,hs,⟨h,c⟩,hn⟩
def rg:List Nat->List Nat
 |a::n::l=>List.range' a n++rg l
 |_=>[]
section
variable {P:Program}{N:Nat}{ops:Array Oper}{Q Q':Exit->Env->World->Prop}{rest:List Oper}{ρ:Env}{w:World}{d:Nat}{op:Op}{ty:TypeId}{pos:String}{af:Array Edge}{gd:Option (Nat×Bool)}
theorem RLb {β:Type}{b:Bool}{k:Bool->Option β}{r:β}(a:gJ b k=some r)(hd:Do P ⟨some d,op,ty,pos,af,gd⟩ ρ w (vb b) w)(n: ∀x,k x=some r->RL P N ops Q rest (upd ρ d (vb x)) w)(hw:fU N ops ρ ⟨some d,op,ty,pos,af,gd⟩=true:=by exact rfl)(c:Nat.blt d N=true:=by exact rfl):RL P N ops Q (⟨some d,op,ty,pos,af,gd⟩::rest) ρ w:=aQ hw c hd (n b a)
theorem RLi {β:Type}{b:Int}{kk:IntKind}{k:Int->Option β}{r:β}(a:gJ b k=some r)(hd:Do P ⟨some d,op,ty,pos,af,gd⟩ ρ w (.int kk b) w)(n: ∀x,k x=some r->RL P N ops Q rest (upd ρ d (.int kk x)) w)(hw:fU N ops ρ ⟨some d,op,ty,pos,af,gd⟩=true:=by exact rfl)(c:Nat.blt d N=true:=by exact rfl):RL P N ops Q (⟨some d,op,ty,pos,af,gd⟩::rest) ρ w:=aQ hw c hd (n b a)
theorem WI {β:Type}{b:Bool}{x y:Option β}{r:β}{c:Operand}{s t:Code}(a:gQ b x y=some r)(hc:ev ρ c=vb b)(ht:x=some r->WP P N s Q ρ w)(hf:y=some r->WP P N t Q ρ w):WP P N (.cond c s t) Q ρ w:=aQm hc (λc=>ht (aAt c a)) (λc=>hf (aBj c a))
theorem RI {β:Type}{b:Bool}{x y:Option β}{r:β}{z:Operand}(a:gQ b x y=some r)(hx:ev ρ z=vb b)(ht:x=some r->RL P N ops Q rest (upd ρ d (vb true)) w)(hf:y=some r->RL P N ops Q rest (upd ρ d (vb false)) w)(hw:fU N ops ρ ⟨some d,.move z,ty,pos,af,gd⟩=true:=by exact rfl)(e:Nat.blt d N=true:=by exact rfl):RL P N ops Q (⟨some d,.move z,ty,pos,af,gd⟩::rest) ρ w:=RL_splitb hw e hx (λc=>ht (aAt c a)) (λc=>hf (aBj c a))
theorem RC {f:FuncId}{args:Array Operand}{at_:Array TypeId}{vs:List Value}{v:Value}{O c S:List Nat}{b:World}{l:List Th}(he:Go.OB.Enters P f)(hc:Calls P f vs.toArray w λe a=>e= .returned v/\Hd c w a [] [])(H:Hd O b w S l)(k: ∀a,Hd O b a S l->RL P N ops Q rest (upd ρ d v) a)(ha:args.toList.map (ev ρ)=vs:=by exact rfl)(hw:fU N ops ρ ⟨some d,.call {callee:= .value (.func f),args:=args,argTypes:=at_},ty,pos,af,gd⟩=true:=by exact rfl)(h:Nat.blt d N=true:=by exact rfl):RL P N ops Q (⟨some d,.call {callee:= .value (.func f),args:=args,argTypes:=at_},ty,pos,af,gd⟩::rest) ρ w:=by
 refine xK hw h (yE he ha) hc ?_;rintro _ a ⟨rfl,G⟩;exact⟨_,rfl,k _ (H.step G.only)⟩
end
section
variable {P:Program}{N:Nat}{ops:Array Oper}{Q Q':Exit->Env->World->Prop}{rest:List Oper}{ρ:Env}{w:World}{d:Nat}{t u ty:TypeId}{x y:Operand}{pos:String}{af:Array Edge}{g:Option (Nat×Bool)}
def KK (P:Program)(N:Nat)(y:Code)(Q:Exit->Env->World->Prop):Env->World->Prop:=WP P N y Q
theorem SQ {x y:Code}(h:WP P N x (qA (KK P N y Q) Q) ρ w):WP P N (.seq x y) Q ρ w:=aYf h λ_ _ h=>h
theorem SR {id:Nat}{l:List Oper}{y:Code}(h:RL P N l.toArray (qA (KK P N y Q) Q) l ρ w):WP P N (.seq (.region id l.toArray false) y) Q ρ w:=SQ (zD h)
theorem RM {y:Code}(n:WP P N y Q ρ w):RL P N ops (qA (KK P N y Q) Q') [] ρ w:=yP (zF n)
theorem WZ {y:Code}(n:WP P N y Q ρ w):WP P N .skip (qA (KK P N y Q) Q') ρ w:=yF (zF n)
theorem KN {y:Code}(n:WP P N y Q ρ w):KK P N y Q ρ w:=n
theorem jn {K:Env->World->Prop}(n:K ρ w):RL P N ops (qA K Q') [] ρ w:=yP (zF n)
theorem js {K:Env->World->Prop}(n:K ρ w):WP P N .skip (qA K Q') ρ w:=yF (zF n)
theorem eG {a b:Int}{kk:IntKind}{β:Type}{k:Bool->Option β}{r:β}(c:gJ (decide (a<b)) k=some r)(n: ∀x,k x=some r->RL P N ops Q rest (upd ρ d (vb x)) w)(hx:ev ρ x= .int kk a:=by exact rfl)(hy:ev ρ y= .int kk b:=by exact rfl)(hw:fU N ops ρ ⟨some d,.binOp .lss t x y u,ty,pos,af,g⟩=true:=by exact rfl)(e:Nat.blt d N=true:=by exact rfl):RL P N ops Q (⟨some d,.binOp .lss t x y u,ty,pos,af,g⟩::rest) ρ w:=RLb c (aQz hx hy) n hw e
theorem aIr {a b:Int}{kk:IntKind}{β:Type}{k:Bool->Option β}{r:β}(c:gJ (decide (a<=b)) k=some r)(n: ∀x,k x=some r->RL P N ops Q rest (upd ρ d (vb x)) w)(hx:ev ρ x= .int kk a:=by exact rfl)(hy:ev ρ y= .int kk b:=by exact rfl)(hw:fU N ops ρ ⟨some d,.binOp .leq t x y u,ty,pos,af,g⟩=true:=by exact rfl)(e:Nat.blt d N=true:=by exact rfl):RL P N ops Q (⟨some d,.binOp .leq t x y u,ty,pos,af,g⟩::rest) ρ w:=RLb c (aRm hx hy) n hw e
theorem pU {a b:Int}{kk:IntKind}{β:Type}{k:Bool->Option β}{r:β}(c:gJ (decide (b<a)) k=some r)(n: ∀x,k x=some r->RL P N ops Q rest (upd ρ d (vb x)) w)(hx:ev ρ x= .int kk a:=by exact rfl)(hy:ev ρ y= .int kk b:=by exact rfl)(hw:fU N ops ρ ⟨some d,.binOp .gtr t x y u,ty,pos,af,g⟩=true:=by exact rfl)(e:Nat.blt d N=true:=by exact rfl):RL P N ops Q (⟨some d,.binOp .gtr t x y u,ty,pos,af,g⟩::rest) ρ w:=RLb c (vK hx hy) n hw e
theorem aBz {a b:Int}{kk:IntKind}{β:Type}{k:Bool->Option β}{r:β}(c:gJ (decide (b<=a)) k=some r)(n: ∀x,k x=some r->RL P N ops Q rest (upd ρ d (vb x)) w)(hx:ev ρ x= .int kk a:=by exact rfl)(hy:ev ρ y= .int kk b:=by exact rfl)(hw:fU N ops ρ ⟨some d,.binOp .geq t x y u,ty,pos,af,g⟩=true:=by exact rfl)(e:Nat.blt d N=true:=by exact rfl):RL P N ops Q (⟨some d,.binOp .geq t x y u,ty,pos,af,g⟩::rest) ρ w:=RLb c (aHl hx hy) n hw e
theorem fG {a b:Int}{kk:IntKind}{β:Type}{k:Bool->Option β}{r:β}(c:gJ (decide (a=b)) k=some r)(n: ∀x,k x=some r->RL P N ops Q rest (upd ρ d (vb x)) w)(hx:ev ρ x= .int kk a:=by exact rfl)(hy:ev ρ y= .int kk b:=by exact rfl)(hw:fU N ops ρ ⟨some d,.binOp .eql t x y u,ty,pos,af,g⟩=true:=by exact rfl)(e:Nat.blt d N=true:=by exact rfl):RL P N ops Q (⟨some d,.binOp .eql t x y u,ty,pos,af,g⟩::rest) ρ w:=RLb c (aGv hx hy) n hw e
theorem aS {a b:Int}{kk:IntKind}{β:Type}{k:Bool->Option β}{r:β}(c:gJ (decide (a≠b)) k=some r)(n: ∀x,k x=some r->RL P N ops Q rest (upd ρ d (vb x)) w)(hx:ev ρ x= .int kk a:=by exact rfl)(hy:ev ρ y= .int kk b:=by exact rfl)(hw:fU N ops ρ ⟨some d,.binOp .neq t x y u,ty,pos,af,g⟩=true:=by exact rfl)(e:Nat.blt d N=true:=by exact rfl):RL P N ops Q (⟨some d,.binOp .neq t x y u,ty,pos,af,g⟩::rest) ρ w:=RLb c (Do_neq hx hy) n hw e
theorem eH {a b:Int}{kk:IntKind}{β:Type}{k:Int->Option β}{r:β}(c:gJ (kk.wrap (a+b)) k=some r)(n: ∀x,k x=some r->RL P N ops Q rest (upd ρ d (.int kk x)) w)(hx:ev ρ x= .int kk a:=by exact rfl)(hy:ev ρ y= .int kk b:=by exact rfl)(hw:fU N ops ρ ⟨some d,.binOp .add t x y u,ty,pos,af,g⟩=true:=by exact rfl)(e:Nat.blt d N=true:=by exact rfl):RL P N ops Q (⟨some d,.binOp .add t x y u,ty,pos,af,g⟩::rest) ρ w:=RLi c (uG hx hy rfl) n hw e
theorem aIu {a b:Int}{kk:IntKind}{β:Type}{k:Int->Option β}{r:β}(c:gJ (kk.wrap (a-b)) k=some r)(n: ∀x,k x=some r->RL P N ops Q rest (upd ρ d (.int kk x)) w)(hx:ev ρ x= .int kk a:=by exact rfl)(hy:ev ρ y= .int kk b:=by exact rfl)(hw:fU N ops ρ ⟨some d,.binOp .sub t x y u,ty,pos,af,g⟩=true:=by exact rfl)(e:Nat.blt d N=true:=by exact rfl):RL P N ops Q (⟨some d,.binOp .sub t x y u,ty,pos,af,g⟩::rest) ρ w:=RLi c (pO hx hy rfl) n hw e
theorem aUu {a b:Int}{kk:IntKind}{β:Type}{k:Int->Option β}{r:β}(c:gJ (kk.wrap (a*b)) k=some r)(n: ∀x,k x=some r->RL P N ops Q rest (upd ρ d (.int kk x)) w)(hx:ev ρ x= .int kk a:=by exact rfl)(hy:ev ρ y= .int kk b:=by exact rfl)(hw:fU N ops ρ ⟨some d,.binOp .mul t x y u,ty,pos,af,g⟩=true:=by exact rfl)(e:Nat.blt d N=true:=by exact rfl):RL P N ops Q (⟨some d,.binOp .mul t x y u,ty,pos,af,g⟩::rest) ρ w:=RLi c (Do_mul hx hy rfl) n hw e
theorem sJ {x y:Code}{O S:List Nat}{a b:World}{T:List Th}(_:Hd O a b S T)(W:List Nat)(l:List (Nat×Value))(h:WP P N x (qA (λρ' c=>Fr W ρ ρ'/\ ∃g:Unit,Sl ρ' ((λ_=>l) g)/\(λ_ wl=>Hd O a wl S T) g c) Q) ρ w)(k: ∀(_:Unit) ρ₁ w,Hd O a w S T->WP P N y Q (over ρ ρ₁ W l) w):WP P N (.seq x y) Q ρ w:=aQt W (λ_:Unit=>l) (λ_ wl=>Hd O a wl S T) h k
theorem bE {α β:Type}{p:Prop}{x:Option α}{f:α->Option β}{r:β}(h:gB x f=some r)(k: ∀y,x=some y->f y=some r->p):p:=(yD h).elim λy q=>k y q.1 q.2
theorem lE {α β:Type}{p:Prop}{x:α}{f:α->Option β}{r:β}(h:gJ x f=some r)(k: ∀y,x=y->f y=some r->p):p:=(aDc h).elim λy q=>k y q.1 q.2
theorem XQ {I:World->Prop}{κ:List MxM.Kd}{K:MxM.Mm->Env->World->Prop}{k:Nat}{M:MxM.Mm}{σ:List Nat}{v:Value}{op:Op}(h: ∀{a},Do P ⟨some d,op,ty,pos,af,g⟩ ρ a v a)(n:MxM.XL P I N ops κ K M σ rest (upd ρ d v) w)(hk:MxM.kdOf κ k= .pure:=by exact rfl)(hw:fU N ops ρ ⟨some d,op,ty,pos,af,g⟩=true:=by exact rfl)(b:Nat.blt d N=true:=by exact rfl):MxM.XL P I N ops κ K M (k::σ) (⟨some d,op,ty,pos,af,g⟩::rest) ρ w:=MxM.XL_pure hk hw b (λ_ _=>h) n
theorem bT {b:Bool}{β:Type}{k:Bool->Option β}{r:β}(a:gJ (!b) k=some r)(n: ∀x,k x=some r->RL P N ops Q rest (upd ρ d (vb x)) w)(hx:ev ρ x=vb b:=by exact rfl)(hw:fU N ops ρ ⟨some d,.unOp .not t x,ty,pos,af,g⟩=true:=by exact rfl)(c:Nat.blt d N=true:=by exact rfl):RL P N ops Q (⟨some d,.unOp .not t x,ty,pos,af,g⟩::rest) ρ w:=RLb a (aHe hx) n hw c
theorem pt (v:Value){z:Operand}(n:RL P N ops Q rest (upd ρ d v) w)(hx:ev ρ x=vb true:=by exact rfl)(hy:ev ρ y=v:=by exact rfl)(hw:fU N ops ρ ⟨some d,.pick x y z,ty,pos,af,g⟩=true:=by exact rfl)(a:Nat.blt d N=true:=by exact rfl):RL P N ops Q (⟨some d,.pick x y z,ty,pos,af,g⟩::rest) ρ w:=aQ hw a (qL hx hy) n
theorem pf (v:Value){z:Operand}(n:RL P N ops Q rest (upd ρ d v) w)(hx:ev ρ x=vb false:=by exact rfl)(hz:ev ρ z=v:=by exact rfl)(hw:fU N ops ρ ⟨some d,.pick x y z,ty,pos,af,g⟩=true:=by exact rfl)(a:Nat.blt d N=true:=by exact rfl):RL P N ops Q (⟨some d,.pick x y z,ty,pos,af,g⟩::rest) ρ w:=aQ hw a (rY hx hz) n
theorem ix {α:Type}{L:List α}{i:Int}{z:α}{e:TypeId}{b o s c:Nat}{kk:IntKind}(hu:P.underlying t=some (.slice e))(hs:Sz P e s)(hx:ev ρ x= .slice (some ⟨b,o,none⟩) L.length c)(h:at' L i=some z)(n:RL P N ops Q rest (upd ρ d (.pointer (some ⟨b,o+i.toNat*s,none⟩))) w)(hy:ev ρ y= .int kk i:=by exact rfl)(hw:fU N ops ρ ⟨some d,.indexAddr t x y,ty,pos,af,g⟩=true:=by exact rfl)(a:Nat.blt d N=true:=by exact rfl):RL P N ops Q (⟨some d,.indexAddr t x y,ty,pos,af,g⟩::rest) ρ w:=aQ hw a (xA hu hs hx hy (zY h).1 (zY h).2.1 rfl rfl) n
theorem lb {O S:List Nat}{a:World}{l:List Th}{b T n:Nat}{cs:List Value}(H:Hd O a w S l)(i:Nat)(h:l[i]? =some (.blk b cs T))(c:Agg P t)(hs:Sz P t n)(k:RL P N ops Q rest (upd ρ d (.agg cs.toArray)) w)(hx:ev ρ x= .pointer (some ⟨b,0,none⟩):=by exact rfl)(hl:cs.length=n:=by exact rfl)(hw:fU N ops ρ ⟨some d,.load t x,ty,pos,af,g⟩=true:=by exact rfl)(e:Nat.blt d N=true:=by exact rfl):RL P N ops Q (⟨some d,.load t x,ty,pos,af,g⟩::rest) ρ w:=aQ hw e (yC c hx hs hl (Blk.cells (H.V h))) k
theorem WJ {β:Type}{b:Bool}{x y:Option β}{r:β}{c:Operand}{s t:Code}(a:gQ b x y=some r)(ht:x=some r->WP P N s Q ρ w)(hf:y=some r->WP P N t Q ρ w)(hc:ev ρ c=vb b:=by exact rfl):WP P N (.cond c s t) Q ρ w:=WI a hc ht hf
theorem RJ {β:Type}{b:Bool}{x y:Option β}{r:β}{z:Operand}(a:gQ b x y=some r)(ht:x=some r->RL P N ops Q rest (upd ρ d (vb true)) w)(hf:y=some r->RL P N ops Q rest (upd ρ d (vb false)) w)(hx:ev ρ z=vb b:=by exact rfl)(hw:fU N ops ρ ⟨some d,.move z,ty,pos,af,g⟩=true:=by exact rfl)(c:Nat.blt d N=true:=by exact rfl):RL P N ops Q (⟨some d,.move z,ty,pos,af,g⟩::rest) ρ w:=RI a hx ht hf hw c
end
abbrev Sm {O S:List Nat}{v w:World}{l:List Th}(_:Hd O v w S l)(w':World)(l':List Th):Prop:=Hd O v w' S l'
section
variable {P:Program}{N:Nat}{Q:Exit->Env->World->Prop}{ρ:Env}{w wo:World}{O S:List Nat}{T:List Th}{X Y β:Type}{r:β}{c x y:Code}
abbrev pj (J:List Nat)(t T:List Th):=Go.Lf.pick J (t++T)
theorem jo (_:Hd O wo w S T)(W:List Nat)(l:Y->List (Nat×Value))(t:Y->List Th)(J:List Nat)(h:WP P N x (qA (λρ' a=>Fr W ρ ρ'/\ ∃z:Y,Sl ρ' (l z)/\Hd O wo a S (pj J (t z) T)) Q) ρ w)(k: ∀z ρ₁ w,Hd O wo w S (pj J (t z) T)->WP P N y Q (over ρ ρ₁ W (l z)) w):WP P N (.seq x y) Q ρ w:=aQt W l (λz wl=>Hd O wo wl S (pj J (t z) T)) h k
theorem jk {b:X->Option β}{m:(X->Option β)->Option β}(a:dO b m=some r)(_:Hd O wo w S T)(W:List Nat)(l:X->Y->List (Nat×Value))(t:X->Y->List Th)(J:List Nat)(h: ∀k:X->Option β,m k=some r->WP P N x (qA (λρ' c=>Fr W ρ ρ'/\ ∃u v,Sl ρ' (l u v)/\Hd O wo c S (pj J (t u v) T)/\k u=some r) Q) ρ w)(k: ∀u v ρ₁ w,Hd O wo w S (pj J (t u v) T)->b u=some r->WP P N y Q (over ρ ρ₁ W (l u v)) w):WP P N (.seq x y) Q ρ w:=by
 refine aQt (G:=X×Y) W (λg=>l g.1 g.2) (λg wl=>Hd O wo wl S (pj J (t g.1 g.2) T)/\b g.1=some r) ((h b a).mono ?_) (λg ρ₁ w hg=>k g.1 g.2 ρ₁ w hg.1 hg.2);intro e ρ' c hq
 cases e<;>first |(obtain⟨d,u,v,f,i,j⟩:=hq;exact⟨d,(u,v),f,i,j⟩)|exact hq
theorem lo {b:(X->Option β)->X->Option β}{d:X}(a:fK b d=some r)(_:Hd O wo w S T)(W:List Nat)(l:X->Y->List (Nat×Value))(t:X->Y->List Th)(J:List Nat)(f:Y)(j:Hd O wo w S (pj J (t d f) T))(n: ∀k u v ρ₁ w,Hd O wo w S (pj J (t u v) T)->b k u=some r->WP P N c (qA (λρ' i=>Fr W ρ ρ'/\ ∃u v,Sl ρ' (l u v)/\Hd O wo i S (pj J (t u v) T)/\k u=some r) Q) (over ρ ρ₁ W (l u v)) w)(hs:Sl ρ (l d f):=by repeat (first |exact yV|refine yJ rfl ?_)):WP P N (.loop c) Q ρ w:=by
 obtain⟨B,m,rfl,o⟩:=aYc a;refine WP_loopS (G:=Nat×X×Y) W (λg=>l g.2.1 g.2.2) (λg wl=>Hd O wo wl S (pj J (t g.2.1 g.2.2) T)/\dW B g.1 g.2.1=some r) (λg=>g.1) (m,d,f) hs ⟨j,o⟩ ?_;rintro⟨m,u,v⟩ ρ₁ w ⟨p,h⟩;obtain⟨m,rfl,h⟩:=loopN_pos h;refine(n (dW B m) u v ρ₁ w p h).mono ?_;intro e ρ' i hq
 cases e<;>first |(obtain⟨q,u',v',s,x,y⟩:=hq;exact⟨q,(m,u',v'),s,⟨x,y⟩,Nat.lt_succ_self _⟩)|exact hq
theorem me {W:List Nat}{ρ ρ':Env}{k:X->Option β}{l:X->Y->List (Nat×Value)}{B:X->Y->Prop}{u:X}(a:k u=some r)(y:Y)(h:B u y)(hs:Sl ρ' (l u y):=by repeat (first |exact yV|refine yJ rfl ?_))(hf:Fr W ρ ρ':=by repeat' (first |with_reducible exact aFf|refine aSj rfl ?_|refine aJv rfl rfl ?_)):Fr W ρ ρ'/\ ∃u v,Sl ρ' (l u v)/\B u v/\k u=some r:=⟨hf,u,y,hs,h,a⟩
end
section
variable {P:Program}{N:Nat}{ops:Array Oper}{Q:Exit->Env->World->Prop}{rest:List Oper}{ρ:Env}{w wo:World}{d dd:Nat}{op:Op}{t e tt uu ty tyy:TypeId}{x y xx:Operand}{pos poo:String}{af aff:Array Edge}{g gg:Option (Nat×Bool)}{f:FuncId}{args:Array Operand}{at_:Array TypeId}{vs:List Value}{O S:List Nat}{l:List Th}{α β A B C D:Type}{r:β}{v:Value}
theorem xu {R:World->Prop}(h: ∃a,DoU P ⟨none,op,ty,pos,af,g⟩ ρ w a/\R a)(k: ∀a,R a->RL P N ops Q rest ρ a)(hw:fU N ops ρ ⟨none,op,ty,pos,af,g⟩=true:=by exact rfl):RL P N ops Q (⟨none,op,ty,pos,af,g⟩::rest) ρ w:=RL_exU hw h k
theorem xv {R:Value->World->Prop}(h: ∃v a,Do P ⟨some d,op,ty,pos,af,g⟩ ρ w v a/\R v a)(k: ∀v a,R v a->RL P N ops Q rest (upd ρ d v) a)(hw:fU N ops ρ ⟨some d,op,ty,pos,af,g⟩=true:=by exact rfl)(hd:Nat.blt d N=true:=by exact rfl):RL P N ops Q (⟨some d,op,ty,pos,af,g⟩::rest) ρ w:=aDy hw hd h k
theorem xb {R:Nat->World->Prop}(h: ∃v a,Do P ⟨some d,op,ty,pos,af,g⟩ ρ w v a/\ ∃b,v= .pointer (some ⟨b,0,none⟩)/\R b a)(k: ∀b a,R b a->RL P N ops Q rest (upd ρ d (.pointer (some ⟨b,0,none⟩))) a)(hw:fU N ops ρ ⟨some d,op,ty,pos,af,g⟩=true:=by exact rfl)(hd:Nat.blt d N=true:=by exact rfl):RL P N ops Q (⟨some d,op,ty,pos,af,g⟩::rest) ρ w:=aDy hw hd h λ_ _ ⟨b,e,q⟩=>e▸k b _ q
theorem ln {L:List α}{rr:Rp α}{F:Nat->Prop}{k:Int->Option β}{b:World}(f:gJ (L.length:Int) k=some r)(h:SlF rr F b v L)(hu:P.underlying t=some (.slice e))(n: ∀x,k x=some r->RL P N ops Q rest (upd ρ d (.int .i64 x)) w)(hx:ev ρ x=v:=by exact rfl)(hw:fU N ops ρ ⟨some d,.call {callee:= .builtin .len,args:= #[x],argTypes:= #[t]},ty,pos,af,g⟩=true:=by exact rfl)(i:Nat.blt d N=true:=by exact rfl):RL P N ops Q (⟨some d,.call {callee:= .builtin .len,args:= #[x],argTypes:= #[t]},ty,pos,af,g⟩::rest) ρ w:=by
 obtain⟨a,c,q⟩:=SlF.len h;exact aQ hw i (kF hu (hx.trans q)) (n _ f)
theorem lr {L:List α}{R:Go.Lf.Rt α}{D:Hol}{bs:List Nat}{F:Nat->Prop}{k:Int->Option β}{b:World}(f:gJ (L.length:Int) k=some r)(h:(Rt.row R uu D).rd F b [v] bs L)(hu:P.underlying t=some (.slice e))(n: ∀x,k x=some r->RL P N ops Q rest (upd ρ d (.int .i64 x)) w)(hx:ev ρ x=v:=by exact rfl)(hw:fU N ops ρ ⟨some d,.call {callee:= .builtin .len,args:= #[x],argTypes:= #[t]},ty,pos,af,g⟩=true:=by exact rfl)(i:Nat.blt d N=true:=by exact rfl):RL P N ops Q (⟨some d,.call {callee:= .builtin .len,args:= #[x],argTypes:= #[t]},ty,pos,af,g⟩::rest) ρ w:=by
 obtain⟨a,c,q⟩:=jS h;exact aQ hw i (kF hu (hx.trans q)) (n _ f)
theorem rea {L:List α}{a:α}{rr:Rp α}{j:Int}{kk:IntKind}(H:Hd O wo w S l)(k:SlF rr (frees O l) w v L)(z:Value)(h:at' L j=some a)(hu:P.underlying t=some (.slice e))(hs:Sz P e 1)(p:aCb P tt)(n: ∀b o,Hd O wo w S (l++[.fz (.at b (o+j.toNat*1) [z])])->RL P N ops Q rest (upd (upd ρ d (.pointer (some ⟨b,o+j.toNat*1,none⟩))) dd z) w)(hc: ∀F w cs,rr.rd F w cs a->cs=[z]:=by exact λ_ _ _ h=>h)(r:rr.sz=1:=by exact rfl)(hx:ev ρ x=v:=by exact rfl)(hy:ev ρ y= .int kk j:=by exact rfl)(s: ∀q,ev (upd ρ d q) xx=q:=by exact λ_=>rfl)(hw:fU N ops ρ ⟨some d,.indexAddr t x y,ty,pos,af,g⟩=true:=by exact rfl)(hd:Nat.blt d N=true:=by exact rfl)(hv: ∀q,fU N ops (upd ρ d q) ⟨some dd,.load tt xx,tyy,poo,aff,gg⟩=true:=by exact λ_=>rfl)(u:Nat.blt dd N=true:=by exact rfl):RL P N ops Q (⟨some d,.indexAddr t x y,ty,pos,af,g⟩::⟨some dd,.load tt xx,tyy,poo,aff,gg⟩::rest) ρ w:=by
 obtain⟨b,o,c,cs,q,A,B,C,f⟩:=xH k h;obtain rfl:=hc _ _ _ A;rw [r]at f;refine aQ hw hd (xA hu hs (hx.trans q) hy (zY h).1 (zY h).2.1 rfl rfl) (aQ (hv _) u (yB p (s _) (Cells.get f (i:=0) rfl)) ?_);exact n b o (H.fz (.at b (o+j.toNat*1) [z]) ⟨B,C,f⟩)
theorem cAz {V:Value}{R:World->Prop}(he:Go.OB.Enters P f)(hc:Calls P f vs.toArray w λe a=>e= .returned V/\R a)(n: ∀a,R a->RL P N ops Q rest (upd ρ d V) a)(ha:args.toList.map (ev ρ)=vs:=by exact rfl)(hw:fU N ops ρ ⟨some d,.call {callee:= .value (.func f),args:=args,argTypes:=at_},ty,pos,af,g⟩=true:=by exact rfl)(b:Nat.blt d N=true:=by exact rfl):RL P N ops Q (⟨some d,.call {callee:= .value (.func f),args:=args,argTypes:=at_},ty,pos,af,g⟩::rest) ρ w:=xK hw b (yE he ha) hc λ_ _ ⟨e,q⟩=>⟨_,e,n _ q⟩
theorem cAa {V:A->Value}{R:A->World->Prop}(he:Go.OB.Enters P f)(hc:Calls P f vs.toArray w λe b=> ∃a,e= .returned (V a)/\R a b)(n: ∀a b,R a b->RL P N ops Q rest (upd ρ d (V a)) b)(ha:args.toList.map (ev ρ)=vs:=by exact rfl)(hw:fU N ops ρ ⟨some d,.call {callee:= .value (.func f),args:=args,argTypes:=at_},ty,pos,af,g⟩=true:=by exact rfl)(c:Nat.blt d N=true:=by exact rfl):RL P N ops Q (⟨some d,.call {callee:= .value (.func f),args:=args,argTypes:=at_},ty,pos,af,g⟩::rest) ρ w:=xK hw c (yE he ha) hc λ_ _ ⟨a,e,q⟩=>⟨_,e,n a _ q⟩
theorem cAb {V:A->B->Value}{R:A->B->World->Prop}(he:Go.OB.Enters P f)(hc:Calls P f vs.toArray w λe c=> ∃a b,e= .returned (V a b)/\R a b c)(n: ∀a b c,R a b c->RL P N ops Q rest (upd ρ d (V a b)) c)(ha:args.toList.map (ev ρ)=vs:=by exact rfl)(hw:fU N ops ρ ⟨some d,.call {callee:= .value (.func f),args:=args,argTypes:=at_},ty,pos,af,g⟩=true:=by exact rfl)(h:Nat.blt d N=true:=by exact rfl):RL P N ops Q (⟨some d,.call {callee:= .value (.func f),args:=args,argTypes:=at_},ty,pos,af,g⟩::rest) ρ w:=xK hw h (yE he ha) hc λ_ _ ⟨a,b,e,q⟩=>⟨_,e,n a b _ q⟩
theorem cAc {V:A->B->C->Value}{R:A->B->C->World->Prop}(he:Go.OB.Enters P f)(hc:Calls P f vs.toArray w λe h=> ∃a b c,e= .returned (V a b c)/\R a b c h)(n: ∀a b c h,R a b c h->RL P N ops Q rest (upd ρ d (V a b c)) h)(ha:args.toList.map (ev ρ)=vs:=by exact rfl)(hw:fU N ops ρ ⟨some d,.call {callee:= .value (.func f),args:=args,argTypes:=at_},ty,pos,af,g⟩=true:=by exact rfl)(i:Nat.blt d N=true:=by exact rfl):RL P N ops Q (⟨some d,.call {callee:= .value (.func f),args:=args,argTypes:=at_},ty,pos,af,g⟩::rest) ρ w:=xK hw i (yE he ha) hc λ_ _ ⟨a,b,c,e,q⟩=>⟨_,e,n a b c _ q⟩
theorem cAd {V:A->B->C->D->Value}{R:A->B->C->D->World->Prop}(he:Go.OB.Enters P f)(hc:Calls P f vs.toArray w λe h=> ∃a b c z,e= .returned (V a b c z)/\R a b c z h)(n: ∀a b c z h,R a b c z h->RL P N ops Q rest (upd ρ d (V a b c z)) h)(ha:args.toList.map (ev ρ)=vs:=by exact rfl)(hw:fU N ops ρ ⟨some d,.call {callee:= .value (.func f),args:=args,argTypes:=at_},ty,pos,af,g⟩=true:=by exact rfl)(i:Nat.blt d N=true:=by exact rfl):RL P N ops Q (⟨some d,.call {callee:= .value (.func f),args:=args,argTypes:=at_},ty,pos,af,g⟩::rest) ρ w:=xK hw i (yE he ha) hc λ_ _ ⟨a,b,c,z,e,q⟩=>⟨_,e,n a b c z _ q⟩
abbrev KOne (rr:Rp α)(f:α->Value):Prop:=(∀F w c x,rr.rd F w c x↔c=[f x])/\rr.sz=1/\ ∀x,(f x).cells= #[f x]
theorem aMh:KOne Rp.str (λs=> .string (bs s)):=⟨λ_ _ _ _=>Iff.rfl,rfl,λ_=>rfl⟩
theorem aSl:KOne (Rp.int .i64) (.int .i64):=⟨λ_ _ _ _=>Iff.rfl,rfl,λ_=>rfl⟩
theorem kByt:KOne (Rp.int .u8) (.int .u8):=⟨λ_ _ _ _=>Iff.rfl,rfl,λ_=>rfl⟩
theorem ll {rr:Rp α}{f:α->Value}(k:KOne rr f){len bytes:Nat}{zs:List Value}{parts:Array (Nat×Operand)}(xl:List α)(hu:P.underlying t=some (.slice e))(he:El P e rr.sz bytes zs)(H:Hd O wo w S l)(hn:xl.length=len:=by exact rfl)(hp:Nat.blt 0 len=true:=by exact rfl)(hs:Nat.ble len 16777216=true:=by exact rfl)(hi:parts.toList.map Prod.fst=List.range len:=by exact rfl)(hv:parts.toList.map (λp=>ev ρ p.2)=xl.map f:=by exact rfl): ∃v b,Do P ⟨some d,.buildSlice t len parts,ty,pos,af,g⟩ ρ w v b/\fO w b/\Hd O wo b S (l++[.own rr v e xl]):=by
 obtain⟨hl,a,hc⟩:=k;have j: ∀xl:List α,aWh 1 (xl.map f):=λxl=>by
  induction xl with
  |nil=>exact True.intro
  |cons x xl ih=>exact⟨by rw [hc];rfl,ih⟩
 have n: ∀xl:List α,rows rr (frees O l) w (xl.map f) xl:=λxl=>by
  induction xl with
  |nil=>rfl
  |cons x xl ih=>exact⟨[f x],_,rfl,(hl _ _ _ _).2 rfl,ih⟩
 have o:(xl.map f).flatMap (λv=>v.cells.toList)=xl.map f:=by
  clear hn hv
  induction xl with
  |nil=>rfl
  |cons x xl ih=>rw [List.map_cons,List.flatMap_cons,ih,hc];rfl
 have c:len*rr.sz<=16777216:=by rw [a,Nat.mul_one];exact Nat.le_of_ble_eq_true hs
 have h:0<len*rr.sz:=by rw [a,Nat.mul_one];exact Nat.le_of_ble_eq_true hp
 have i:uN rr.sz len zs (parts.toList.map λp=>(p.1,ev ρ p.2))=some (xl.map f):=xP (by rw [a];decide) hi hv (by rw [a];exact j xl) o;exact mZ (bBe hu he c h hn i H (n xl)) (aAg hu he c h i)
theorem snd3 {R Y Z:Value->World->Prop}(h: ∃v c,R v c/\Y v c/\Z v c): ∃v c,R v c/\Z v c:=let ⟨v,c,a,_,b⟩:=h;⟨v,c,a,b⟩
theorem kl {rr:Rp α}{f:α->Value}(k:KOne rr f){len bytes:Nat}{zs:List Value}{parts:Array (Nat×Operand)}(xl:List α)(hu:P.underlying t=some (.slice e))(he:El P e rr.sz bytes zs)(H:Hd O wo w S l)(hn:xl.length=len:=by exact rfl)(hp:Nat.blt 0 len=true:=by exact rfl)(hs:Nat.ble len 16777216=true:=by exact rfl)(hi:parts.toList.map Prod.fst=List.range len:=by exact rfl)(hv:parts.toList.map (λp=>ev ρ p.2)=xl.map f:=by exact rfl): ∃v a,Do P ⟨some d,.buildSlice t len parts,ty,pos,af,g⟩ ρ w v a/\Hd O wo a S (l++[.own rr v e xl]):=snd3 (ll k xl hu he H hn hp hs hi hv)
theorem lOne (rr:Rp α)(x:α)(cs:List Value){bytes:Nat}{zs:List Value}{q:Operand}(hu:P.underlying t=some (.slice e))(he:El P e rr.sz bytes zs)(hr:rr.rd (frees O l) w cs x)(H:Hd O wo w S l)(a:cs.length=rr.sz:=by exact rfl)(c:Nat.blt 0 cs.length=true:=by exact rfl)(j:Nat.ble cs.length 16777216=true:=by exact rfl)(hv:ev ρ q= .agg cs.toArray:=by exact rfl): ∃v b,Do P ⟨some d,.buildSlice t 1 #[(0,q)],ty,pos,af,g⟩ ρ w v b/\fO w b/\Hd O wo b S (l++[.own rr v e [x]]):=by
 have f:1*rr.sz<=16777216:=by rw [<-a,Nat.one_mul];exact Nat.le_of_ble_eq_true j
 have h:0<1*rr.sz:=by rw [<-a,Nat.one_mul];exact Nat.le_of_ble_eq_true c
 have i:uN rr.sz 1 zs ((#[(0,q)]:Array (Nat×Operand)).toList.map λp=>(p.1,ev ρ p.2))=some cs:=xP (vs:=[.agg cs.toArray]) (by rw [<-a];exact Nat.le_of_ble_eq_true c) rfl (by simp [hv]) ⟨by rw [<-a];simp [Value.cells],T1⟩ (by simp [Value.cells]);exact mZ (bBe hu he f h rfl i H ⟨cs,[],by simp,hr,rfl⟩) (aAg hu he f h i)
theorem bOne (rr:Rp α)(x:α)(cs:List Value){bytes:Nat}{zs:List Value}{q:Operand}(hu:P.underlying t=some (.slice e))(he:El P e rr.sz bytes zs)(hr:rr.rd (frees O l) w cs x)(H:Hd O wo w S l)(b:cs.length=rr.sz:=by exact rfl)(c:Nat.blt 0 cs.length=true:=by exact rfl)(f:Nat.ble cs.length 16777216=true:=by exact rfl)(hv:ev ρ q= .agg cs.toArray:=by exact rfl): ∃v a,Do P ⟨some d,.buildSlice t 1 #[(0,q)],ty,pos,af,g⟩ ρ w v a/\Hd O wo a S (l++[.own rr v e [x]]):=snd3 (lOne rr x cs hu he hr H b c f hv)
theorem Xu {κ:List MxM.Kd}{K:MxM.Mm->Env->World->Prop}{k:Nat}{M:MxM.Mm}{σ Si:List Nat}{vo:World}{R:World->World->Prop}(h: ∀b,fO w b-> ∃a,DoU P ⟨none,op,ty,pos,af,g⟩ ρ b a/\R b a)(n: ∀b a,fO w b->R b a->MxM.XL P (λa=>Only Si vo a) N ops κ K none σ rest ρ a)(ho: ∀b a,R b a->Only Si vo a:=by exact λ_ _ h=>h.only)(hk:MxM.kdOf κ k= .eff:=by exact rfl)(hw:fU N ops ρ ⟨none,op,ty,pos,af,g⟩=true:=by exact rfl):MxM.XL P (λa=>Only Si vo a) N ops κ K M (k::σ) (⟨none,op,ty,pos,af,g⟩::rest) ρ w:=MxM.XL_exU oS hk hw h λ_ _ s q=>⟨ho _ _ q,n _ _ s q⟩
theorem Xe {κ:List MxM.Kd}{K:MxM.Mm->Env->World->Prop}{k:Nat}{M:MxM.Mm}{σ Si:List Nat}{vo:World}{R:World->Value->World->Prop}(h: ∀b,fO w b-> ∃v a,Do P ⟨some d,op,ty,pos,af,g⟩ ρ b v a/\R b v a)(n: ∀b v a,fO w b->R b v a->MxM.XL P (λa=>Only Si vo a) N ops κ K none σ rest (upd ρ d v) a)(ho: ∀b v a,R b v a->Only Si vo a:=by exact λ_ _ _ h=>h.only)(hk:MxM.kdOf κ k= .eff:=by exact rfl)(hw:fU N ops ρ ⟨some d,op,ty,pos,af,g⟩=true:=by exact rfl)(hd:Nat.blt d N=true:=by exact rfl):MxM.XL P (λa=>Only Si vo a) N ops κ K M (k::σ) (⟨some d,op,ty,pos,af,g⟩::rest) ρ w:=MxM.XL_ex oS hk hw hd h λ_ _ _ s q=>⟨ho _ _ _ q,n _ _ _ s q⟩
theorem Xf {κ:List MxM.Kd}{K:MxM.Mm->Env->World->Prop}{k:Nat}{M:MxM.Mm}{σ Si:List Nat}{vo:World}{R:World->Value->World->α->Prop}(h: ∀c,fO w c-> ∃v b,Do P ⟨some d,op,ty,pos,af,g⟩ ρ c v b/\ ∃a,R c v b a)(n: ∀c v b,fO w c-> ∀a,R c v b a->MxM.XL P (λb=>Only Si vo b) N ops κ K none σ rest (upd ρ d v) b)(ho: ∀c v b a,R c v b a->Only Si vo b:=by exact λ_ _ _ _ h=>h.only)(hk:MxM.kdOf κ k= .eff:=by exact rfl)(hw:fU N ops ρ ⟨some d,op,ty,pos,af,g⟩=true:=by exact rfl)(hd:Nat.blt d N=true:=by exact rfl):MxM.XL P (λb=>Only Si vo b) N ops κ K M (k::σ) (⟨some d,op,ty,pos,af,g⟩::rest) ρ w:=MxM.XL_ex oS hk hw hd h λ_ _ _ s ⟨_,q⟩=>⟨ho _ _ _ _ q,n _ _ _ s _ q⟩
end
abbrev Cl (f:Nat)(a:List Value)(w:World)(R:Ending->World->Prop):Prop:=Calls Tryz.prog f a.toArray w R
abbrev Rt (f:Nat)(a:List Value)(v:Value)(w:World)(O S:List Nat)(L:List Th):Prop:=Cl f a w λe h=>e= .returned v/\Hd O w h S L
abbrev i6 (n:Int):Value:= .int .i64 n
abbrev sb (s:Str):Value:= .string (bs s)
abbrev f1 {α:Type}(r:Rp α)(v:Value)(l:List α):Th:= .fz (.sl r v l)
theorem Hbc {O S:List Nat}{a w:World}{l:List Th}{b:Nat}{T:TypeId}{cs:List Value}(H:Hd O a w S l)(i:Nat)(h:l[i]? =some (.blk b cs T)):Cells w ⟨b,0,none⟩ cs:=Blk.cells (H.V h)
theorem Hbg {O S:List Nat}{a w:World}{l:List Th}{b:Nat}{T:TypeId}{cs:List Value}{v:Value}(H:Hd O a w S l)(i j:Nat)(h:l[i]? =some (.blk b cs T))(c:cs[j]? =some v):w.cell? ⟨b,0+j,none⟩=some v:=Cells.get (Blk.cells (H.V h)) c
theorem XP {P:Program}{I:World->Prop}{N:Nat}{ops:Array Oper}{κ:List MxM.Kd}{K:MxM.Mm->Env->World->Prop}{k:Nat}{M:MxM.Mm}{σ:List Nat}{rest:List Oper}{ρ:Env}{w:World}{d:Nat}{ty:TypeId}{pos:String}{af:Array Edge}{g:Option (Nat×Bool)}{v:Value}{op:Op}(h: ∀a,I a->Do P ⟨some d,op,ty,pos,af,g⟩ ρ a v a)(n:MxM.XL P I N ops κ K M σ rest (upd ρ d v) w)(hk:MxM.kdOf κ k= .pure:=by exact rfl)(hw:fU N ops ρ ⟨some d,op,ty,pos,af,g⟩=true:=by exact rfl)(hd:Nat.blt d N=true:=by exact rfl):MxM.XL P I N ops κ K M (k::σ) (⟨some d,op,ty,pos,af,g⟩::rest) ρ w:=MxM.XL_pure hk hw hd h n
theorem XO {P:Program}{I:World->Prop}{N:Nat}{ops:Array Oper}{κ:List MxM.Kd}{K:MxM.Mm->Env->World->Prop}{k:Nat}{M:MxM.Mm}{σ:List Nat}{rest:List Oper}{ρ:Env}{w:World}{d:Nat}{ty:TypeId}{pos:String}{af:Array Edge}{g:Option (Nat×Bool)}{op:Op}(n:MxM.XL P I N ops κ K M σ rest (upd ρ d undef) w)(hk:MxM.kdOf κ k= .pure:=by exact rfl)(hw:fU N ops ρ ⟨some d,op,ty,pos,af,g⟩=false:=by exact rfl)(hd:Nat.blt d N=true:=by exact rfl):MxM.XL P I N ops κ K M (k::σ) (⟨some d,op,ty,pos,af,g⟩::rest) ρ w:=MxM.XL_offp hk hw hd n
theorem XM {P:Program}{I:World->Prop}{N:Nat}{ops:Array Oper}{κ:List MxM.Kd}{K:MxM.Mm->Env->World->Prop}{k:Nat}{M:MxM.Mm}{σ:List Nat}{rest:List Oper}{ρ:Env}{w:World}{d:Nat}{ty:TypeId}{pos:String}{af:Array Edge}{g:Option (Nat×Bool)}{x:Operand}(v:Value)(n:MxM.XL P I N ops κ K M σ rest (upd ρ d v) w)(hx:ev ρ x=v:=by exact rfl)(hk:MxM.kdOf κ k= .pure:=by exact rfl)(hw:fU N ops ρ ⟨some d,.move x,ty,pos,af,g⟩=true:=by exact rfl)(hd:Nat.blt d N=true:=by exact rfl):MxM.XL P I N ops κ K M (k::σ) (⟨some d,.move x,ty,pos,af,g⟩::rest) ρ w:=MxM.XL_pure hk hw hd (λ_ _=>mW hx) n
theorem XR {P:Program}{c:World}{e:List Nat}{N:Nat}{ops:Array Oper}{κ:List MxM.Kd}{K:MxM.Mm->Env->World->Prop}{k:Nat}{M:MxM.Mm}{σ:List Nat}{rest:List Oper}{ρ:Env}{w:World}{d:Nat}{ty:TypeId}{pos:String}{af:Array Edge}{g:Option (Nat×Bool)}{t:TypeId}{x:Operand}{O S:List Nat}{f:World}{l:List Th}{b:Nat}{T:TypeId}{cs:List Value}{v:Value}(o:aCb P t)(H:Hd O f w S l)(i j:Nat)(h:l[i]? =some (.blk b cs T))(p:cs[j]? =some v)(n:MxM.XL P (λa=>Only e c a) N ops κ K M σ rest (upd ρ d v) w)(hx:ev ρ x= .pointer (some ⟨b,0+j,none⟩):=by exact rfl)(hk:MxM.kdOf κ k= .read:=by exact rfl)(hw:fU N ops ρ ⟨some d,.load t x,ty,pos,af,g⟩=true:=by exact rfl)(hd:Nat.blt d N=true:=by exact rfl):MxM.XL P (λa=>Only e c a) N ops κ K M (k::σ) (⟨some d,.load t x,ty,pos,af,g⟩::rest) ρ w:=MxM.xC oS hk hw hd (λ_ q=>yB o hx (Hbg (H.Z q) i j h p)) n
theorem Ld {P:Program}{N:Nat}{ops:Array Oper}{Q:Exit->Env->World->Prop}{rest:List Oper}{ρ:Env}{w:World}{d:Nat}{t ty:TypeId}{x:Operand}{pos:String}{af:Array Edge}{g:Option (Nat×Bool)}{O S:List Nat}{a:World}{l:List Th}{b:Nat}{T:TypeId}{cs:List Value}{v:Value}(o:aCb P t)(H:Hd O a w S l)(i j:Nat)(h:l[i]? =some (.blk b cs T))(c:cs[j]? =some v)(k:RL P N ops Q rest (upd ρ d v) w)(hx:ev ρ x= .pointer (some ⟨b,0+j,none⟩):=by exact rfl)(hw:fU N ops ρ ⟨some d,.load t x,ty,pos,af,g⟩=true:=by exact rfl)(hd:Nat.blt d N=true:=by exact rfl):RL P N ops Q (⟨some d,.load t x,ty,pos,af,g⟩::rest) ρ w:=zK (yB o hx (Hbg H i j h c)) k hw hd
theorem fH {f:FuncId}{fn:Func}(h:Tryz.prog.funcs[f]? =some fn)(a:fn.body.isSome=true:=by exact rfl)(b:(fn.name== "runtime.NumGoroutine")=false:=by kernel_rfl):Go.OB.Enters Tryz.prog f:=⟨_,h,a,b⟩
theorem u2:Tryz.prog.underlying 2=some (.int .i64):=Tryz.underlying2
theorem u3:Tryz.prog.underlying 3=some (.int .i64):=Tryz.underlying3
theorem u5:Tryz.prog.underlying 5=some (.int .u8):=Tryz.underlying5
theorem u9:Tryz.prog.underlying 9=some .string:=Tryz.underlying9
theorem u22:Tryz.prog.underlying 22=some (.slice 9):=Tryz.underlying22
theorem u23:Tryz.prog.underlying 23=some (.slice 98):=Tryz.underlying23
theorem u24:Tryz.prog.underlying 24=some (.slice 100):=Tryz.underlying24
theorem u27:Tryz.prog.underlying 27=some (.slice 109):=Tryz.underlying27
theorem u28:Tryz.prog.underlying 28=some (.slice 41):=Tryz.underlying28
theorem u29:Tryz.prog.underlying 29=some (.pointer 64):=Tryz.underlying29
theorem u38:Tryz.prog.underlying 38=some (.slice 3):=Tryz.underlying38
theorem u41:Tryz.prog.underlying 41=some (.slice 72):=Tryz.underlying41
theorem u43:Tryz.prog.underlying 43=some (.slice 38):=Tryz.underlying43
theorem u60:Tryz.prog.underlying 60=some (.slice 69):=Tryz.underlying60
theorem u61:Tryz.prog.underlying 61=some (.slice 67):=Tryz.underlying61
theorem u62:Tryz.prog.underlying 62=some (.slice 4):=Tryz.underlying62
theorem u75:Tryz.prog.underlying 75=some (.slice 85):=Tryz.underlying75
theorem u79:Tryz.prog.underlying 79=some (.slice 81):=Tryz.underlying79
theorem u82:Tryz.prog.underlying 82=some (.slice 224):=Tryz.underlying82
theorem u83:Tryz.prog.underlying 83=some (.slice 250):=Tryz.underlying83
theorem u87:Tryz.prog.underlying 87=some (.slice 5):=Tryz.underlying87
theorem u105:Tryz.prog.underlying 105=some (.slice 229):=Tryz.underlying105
theorem aZf:Tryz.prog.underlying 112=some (.map 9 3):=Tryz.underlying112
theorem aMn:Tryz.prog.underlying 144=some (.pointer 146):=Tryz.underlying144
theorem aOf:Tryz.prog.underlying 147=some (.pointer 150):=Tryz.underlying147
theorem aSz:Tryz.prog.underlying 148=some (.array 3 3):=Tryz.underlying148
theorem aRe:Tryz.prog.underlying 151=some (.pointer 153):=Tryz.underlying151
theorem u154:Tryz.prog.underlying 154=some (.pointer 156):=Tryz.underlying154
theorem aXa:Tryz.prog.underlying 157=some (.pointer 160):=Tryz.underlying157
theorem u161:Tryz.prog.underlying 161=some (.pointer 163):=Tryz.underlying161
theorem u193:Tryz.prog.underlying 193=some (.array 7 9):=Tryz.underlying193
theorem u224:Tryz.prog.underlying 224=some (.int .i8):=Tryz.underlying224
theorem aSi:Tryz.prog.underlying 241=some (.int .u64):=Tryz.underlying241
theorem fo121_2:aGn Tryz.prog 121 2=some (2,3):=by kernel_rfl
theorem fo121_3:aGn Tryz.prog 121 3=some (3,9):=by kernel_rfl
theorem ui131:Tryz.prog.underlying 131=some (.interface (Tryz.prog.methodsAt 131)):=by kernel_rfl
abbrev szZ (a b:Nat):Prop:=Sz Tryz.prog a b
theorem szO {a b:Nat}(h:Sz Tryz.prog a b:=by unfold Sz;kernel_rfl):szZ a b:=h
theorem sz3:szZ 3 1:=szO
theorem sz4:szZ 4 1:=szO
theorem sz9:szZ 9 1:=szO
theorem sz22:szZ 22 1:=szO
theorem sz24:szZ 24 1:=szO
theorem rW:szZ 26 3:=szO
theorem aNz:szZ 38 1:=szO
theorem sz41:szZ 41 1:=szO
theorem sz60:szZ 60 1:=szO
theorem sz61:szZ 61 1:=szO
theorem sz62:szZ 62 1:=szO
theorem aCw:szZ 67 1:=szO
theorem aIy:szZ 69 3:=szO
theorem rE:szZ 72 2:=szO
theorem sz75:szZ 75 1:=szO
theorem eP:szZ 81 7:=szO
theorem sz82:szZ 82 1:=szO
theorem sz83:szZ 83 1:=szO
theorem aQu:szZ 85 18:=szO
theorem sz87:szZ 87 1:=szO
theorem aBc:szZ 98 9:=szO
theorem mG:szZ 100 8:=szO
theorem bCn:szZ 107 2:=szO
theorem qQ:szZ 109 4:=szO
theorem aPc:szZ 121 4:=szO
theorem sz125:szZ 125 2:=szO
theorem sz146:szZ 146 4:=szO
theorem sz148:szZ 148 3:=szO
theorem sz150:szZ 150 7:=szO
theorem sz160:szZ 160 4:=szO
theorem sz163:szZ 163 3:=szO
theorem sz164:szZ 164 1:=szO
theorem sz175:szZ 175 1:=szO
theorem sz177:szZ 177 3:=szO
theorem sz179:szZ 179 5:=szO
theorem sz181:szZ 181 1:=szO
theorem sz183:szZ 183 1:=szO
theorem aIb:szZ 224 1:=szO
theorem aIj:szZ 229 3:=szO
theorem aId:szZ 250 2:=szO
theorem nT:szZ 254 7:=szO
abbrev uB (a:Nat):Prop:=aCb Tryz.prog a
theorem uP {a:Nat}(h:aCb Tryz.prog a:=by unfold aCb;kernel_rfl):uB a:=h
theorem fC:uB 3:=uP
theorem pF:uB 4:=uP
theorem dC:uB 9:=uP
theorem aC:uB 22:=uP
theorem uK:uB 23:=uP
theorem pJ:uB 24:=uP
theorem one30:uB 30:=uP
theorem kC:uB 38:=uP
theorem aDz:uB 41:=uP
theorem aMi:uB 51:=uP
theorem aQd:uB 60:=uP
theorem aFd:uB 61:=uP
theorem aBt:uB 62:=uP
theorem kQ:uB 67:=uP
theorem aCm:uB 75:=uP
theorem jH:uB 79:=uP
theorem aKp:uB 82:=uP
theorem tH:uB 83:=uP
theorem aPv:uB 87:=uP
theorem aCg:uB 105:=uP
theorem aEs:uB 112:=uP
theorem vV:uB 119:=uP
theorem one164:uB 164:=uP
theorem one224:uB 224:=uP
abbrev uS (a:Nat):Prop:=Agg Tryz.prog a
theorem vN {a:Nat}(h:Agg Tryz.prog a:=by unfold Agg;kernel_rfl):uS a:=h
theorem mJ:uS 26:=vN
theorem aZn:uS 69:=vN
theorem aIi:uS 72:=vN
theorem eQ:uS 81:=vN
theorem agg85:uS 85:=vN
theorem aPy:uS 98:=vN
theorem aHo:uS 100:=vN
theorem aQh:uS 107:=vN
theorem aRu:uS 109:=vN
theorem aXz:uS 121:=vN
theorem agg146:uS 146:=vN
theorem agg148:uS 148:=vN
theorem agg150:uS 150:=vN
theorem agg160:uS 160:=vN
theorem agg163:uS 163:=vN
theorem agg175:uS 175:=vN
theorem agg177:uS 177:=vN
theorem agg179:uS 179:=vN
theorem agg181:uS 181:=vN
theorem agg183:uS 183:=vN
theorem agg229:uS 229:=vN
theorem vU:uS 254:=vN
theorem zero3:Go.OB.Zero Tryz.prog 3 ([i6 0]):=by unfold Go.OB.Zero;kernel_rfl
theorem zero9:Go.OB.Zero Tryz.prog 9 ([.string (bs [])]):=by unfold Go.OB.Zero;kernel_rfl
theorem zero22:Go.OB.Zero Tryz.prog 22 ([.slice none 0 0]):=by unfold Go.OB.Zero;kernel_rfl
theorem zero26:Go.OB.Zero Tryz.prog 26 ([.slice none 0 0,.slice none 0 0,.slice none 0 0]):=by unfold Go.OB.Zero;kernel_rfl
theorem aQv:Go.OB.Zero Tryz.prog 69 ([i6 0,i6 0,.nilIface]):=by unfold Go.OB.Zero;kernel_rfl
theorem vM:Go.OB.Zero Tryz.prog 72 ([i6 0,vb false]):=by unfold Go.OB.Zero;kernel_rfl
theorem nD:Go.OB.Zero Tryz.prog 81 ([i6 0,.string (bs []),.string (bs []),i6 0,i6 0,i6 0,.slice none 0 0]):=by unfold Go.OB.Zero;kernel_rfl
theorem zero85:Go.OB.Zero Tryz.prog 85 ([i6 0,.string (bs []),.string (bs []),i6 0,i6 0,i6 0,.slice none 0 0,.slice none 0 0,i6 0,i6 0,i6 0,.slice none 0 0,i6 0,i6 0,i6 0,i6 0,.slice none 0 0,.slice none 0 0]):=by unfold Go.OB.Zero;kernel_rfl
theorem aKq:Go.OB.Zero Tryz.prog 98 ([.string (bs []),.string (bs []),i6 0,.string (bs []),.string (bs []),i6 0,i6 0,i6 0,.slice none 0 0]):=by unfold Go.OB.Zero;kernel_rfl
theorem aFj:Go.OB.Zero Tryz.prog 100 ([.string (bs []),i6 0,.string (bs []),.string (bs []),i6 0,i6 0,i6 0,.slice none 0 0]):=by unfold Go.OB.Zero;kernel_rfl
theorem bBi:Go.OB.Zero Tryz.prog 109 ([.string (bs []),i6 0,.slice none 0 0,i6 0]):=by unfold Go.OB.Zero;kernel_rfl
theorem aZx:Go.OB.Zero Tryz.prog 121 ([i6 0,i6 0,i6 0,.string (bs [])]):=by unfold Go.OB.Zero;kernel_rfl
theorem zero125:Go.OB.Zero Tryz.prog 125 ([i6 0,i6 0]):=by unfold Go.OB.Zero;kernel_rfl
theorem zero129:Go.OB.Zero Tryz.prog 129 ([.pointer none,.slice none 0 0]):=by unfold Go.OB.Zero;kernel_rfl
theorem zero146:Go.OB.Zero Tryz.prog 146 ([i6 0,i6 0,i6 0,.slice none 0 0]):=by unfold Go.OB.Zero;kernel_rfl
theorem zero148:Go.OB.Zero Tryz.prog 148 ((Fl.arr 3 (Fl.int .i64)).f (Arr.rep 3 0:Arr 3 Int)):=by unfold Go.OB.Zero;kernel_rfl
theorem zero150:Go.OB.Zero Tryz.prog 150 ([.nilIface,i6 0,i6 0,.slice none 0 0,i6 0,i6 0,i6 0]):=by unfold Go.OB.Zero;kernel_rfl
theorem zero160:Go.OB.Zero Tryz.prog 160 ([.nilIface,.nilIface,i6 0,vb false]):=by unfold Go.OB.Zero;kernel_rfl
theorem zero163:Go.OB.Zero Tryz.prog 163 ([.nilIface,i6 0,vb false]):=by unfold Go.OB.Zero;kernel_rfl
theorem zero164:Go.OB.Zero Tryz.prog 164 ([.nilFunc]):=by unfold Go.OB.Zero;kernel_rfl
theorem zero229:Go.OB.Zero Tryz.prog 229 ([i6 0,i6 0,i6 0]):=by unfold Go.OB.Zero;kernel_rfl
theorem bCl:Go.OB.Zero Tryz.prog 254 ([vb false,vb false,vb false,vb false,vb false,i6 0,i6 0]):=by unfold Go.OB.Zero;kernel_rfl
theorem el3:El Tryz.prog 3 1 8 ([i6 0]):=⟨by kernel_rfl,by kernel_rfl,by kernel_rfl,by decide,by decide⟩
theorem el4:El Tryz.prog 4 1 1 ([vb false]):=⟨by kernel_rfl,by kernel_rfl,by kernel_rfl,by decide,by decide⟩
theorem el5:El Tryz.prog 5 1 1 ([.int .u8 0]):=⟨by kernel_rfl,by kernel_rfl,by kernel_rfl,by decide,by decide⟩
theorem el9:El Tryz.prog 9 1 16 ([.string (bs [])]):=⟨by kernel_rfl,by kernel_rfl,by kernel_rfl,by decide,by decide⟩
theorem el38:El Tryz.prog 38 1 24 ([.slice none 0 0]):=⟨by kernel_rfl,by kernel_rfl,by kernel_rfl,by decide,by decide⟩
theorem aMj:El Tryz.prog 67 1 16 ([.nilIface]):=⟨by kernel_rfl,by kernel_rfl,by kernel_rfl,by decide,by decide⟩
theorem el69:El Tryz.prog 69 3 32 ([i6 0,i6 0,.nilIface]):=⟨by kernel_rfl,by kernel_rfl,by kernel_rfl,by decide,by decide⟩
theorem el72:El Tryz.prog 72 2 16 ([i6 0,vb false]):=⟨by kernel_rfl,by kernel_rfl,by kernel_rfl,by decide,by decide⟩
theorem el81:El Tryz.prog 81 7 88 ([i6 0,.string (bs []),.string (bs []),i6 0,i6 0,i6 0,.slice none 0 0]):=⟨by kernel_rfl,by kernel_rfl,by kernel_rfl,by decide,by decide⟩
theorem el85:El Tryz.prog 85 18 240 ([i6 0,.string (bs []),.string (bs []),i6 0,i6 0,i6 0,.slice none 0 0,.slice none 0 0,i6 0,i6 0,i6 0,.slice none 0 0,i6 0,i6 0,i6 0,i6 0,.slice none 0 0,.slice none 0 0]):=⟨by kernel_rfl,by kernel_rfl,by kernel_rfl,by decide,by decide⟩
theorem el100:El Tryz.prog 100 8 104 ([.string (bs []),i6 0,.string (bs []),.string (bs []),i6 0,i6 0,i6 0,.slice none 0 0]):=⟨by kernel_rfl,by kernel_rfl,by kernel_rfl,by decide,by decide⟩
theorem el224:El Tryz.prog 224 1 1 ([.int .i8 0]):=⟨by kernel_rfl,by kernel_rfl,by kernel_rfl,by decide,by decide⟩
theorem aPz:El Tryz.prog 250 2 16 ([i6 0,i6 0]):=⟨by kernel_rfl,by kernel_rfl,by kernel_rfl,by decide,by decide⟩
theorem z8_5:Z8 Tryz.prog 5:=by unfold Z8;kernel_rfl
theorem bz89:Tryz.prog.built 89 []=some ([.slice none 0 0]).toArray:=by kernel_rfl
theorem bz254:Tryz.prog.built 254 []=some ([vb false,vb false,vb false,vb false,vb false,i6 0,i6 0]).toArray:=by kernel_rfl
theorem bt54_0 (a:Option Addr):Tryz.prog.built 54 [(0,.pointer a)]=some [.pointer a].toArray:=by kernel_rfl
theorem aMx (a:Option Addr)(b c:Nat)(d:Int)(e:Option Addr)(f h:Nat):Tryz.prog.built 64 [(0,.slice a b c),(1,i6 d),(4,.slice e f h)]=some [.slice a b c,i6 d,.slice none 0 0,.slice none 0 0,.slice e f h].toArray:=by kernel_rfl
theorem aNe (a b:Int)(a2T:TypeId)(c:Value):Tryz.prog.built 69 [(0,i6 a),(1,i6 b),(2,.iface a2T c)]=some [i6 a,i6 b,.iface a2T c].toArray:=by kernel_rfl
theorem bt77_0_5 (a:Option Addr)(b c:Nat)(d:Option Addr)(e f:Nat)(h:Option Addr)(i j:Nat)(k:Option Addr)(l n:Nat):Tryz.prog.built 77 [(0,.agg [.slice a b c,.slice d e f,.slice h i j].toArray),(5,.slice k l n)]=some [.slice a b c,.slice d e f,.slice h i j,.slice none 0 0,.slice none 0 0,.slice none 0 0,i6 0,.slice k l n,.slice none 0 0,i6 0,.slice none 0 0,.slice none 0 0].toArray:=by kernel_rfl
theorem bt81_0 (a:Int):Tryz.prog.built 81 [(0,i6 a)]=some [i6 a,.string (bs []),.string (bs []),i6 0,i6 0,i6 0,.slice none 0 0].toArray:=by kernel_rfl
theorem bt81_0_1 (a:Int)(b:Str):Tryz.prog.built 81 [(0,i6 a),(1,sb b)]=some [i6 a,sb b,.string (bs []),i6 0,i6 0,i6 0,.slice none 0 0].toArray:=by kernel_rfl
theorem aTt (a:Int)(b:Option Addr)(c d:Nat):Tryz.prog.built 81 [(0,i6 a),(6,.slice b c d)]=some [i6 a,.string (bs []),.string (bs []),i6 0,i6 0,i6 0,.slice b c d].toArray:=by kernel_rfl
theorem bt85_0 (a:Int)(b c:Str)(d e f:Int)(h:Option Addr)(i j:Nat):Tryz.prog.built 85 [(0,.agg [i6 a,sb b,sb c,i6 d,i6 e,i6 f,.slice h i j].toArray)]=some [i6 a,sb b,sb c,i6 d,i6 e,i6 f,.slice h i j,.slice none 0 0,i6 0,i6 0,i6 0,.slice none 0 0,i6 0,i6 0,i6 0,i6 0,.slice none 0 0,.slice none 0 0].toArray:=by kernel_rfl
theorem bt100_0 (a:Str):Tryz.prog.built 100 [(0,sb a)]=some [sb a,i6 0,.string (bs []),.string (bs []),i6 0,i6 0,i6 0,.slice none 0 0].toArray:=by kernel_rfl
theorem aVq (a:Option Nat)(b:Option Addr)(c d:Nat)(e:Option Nat):Tryz.prog.built 114 [(0,.map a),(2,.slice b c d),(3,.map e)]=some [.map a,.slice none 0 0,.slice b c d,.map e].toArray:=by kernel_rfl
theorem bt121_0_1 (a b:Int):Tryz.prog.built 121 [(0,i6 a),(1,i6 b)]=some [i6 a,i6 b,i6 0,.string (bs [])].toArray:=by kernel_rfl
theorem bt123_0 (a:Str):Tryz.prog.built 123 [(0,sb a)]=some [sb a,i6 0,i6 0,i6 0,i6 0,.string (bs []),.slice none 0 0,.slice none 0 0,.slice none 0 0].toArray:=by kernel_rfl
theorem bt138_0 (a:Option Addr)(b c:Nat):Tryz.prog.built 138 [(0,.slice a b c)]=some [.slice a b c,.slice none 0 0,.slice none 0 0].toArray:=by kernel_rfl
theorem aUb (a b c:Int):Tryz.prog.built 146 [(0,i6 a),(1,i6 b),(2,i6 c)]=some [i6 a,i6 b,i6 c,.slice none 0 0].toArray:=by kernel_rfl
theorem aCx (a0T:TypeId)(a:Value)(b c:Int):Tryz.prog.built 150 [(0,.iface a0T a),(1,i6 b),(2,i6 c)]=some [.iface a0T a,i6 b,i6 c,.slice none 0 0,i6 0,i6 0,i6 0].toArray:=by kernel_rfl
theorem bAv (a0T:TypeId)(a:Value):Tryz.prog.built 153 [(0,.iface a0T a)]=some [.iface a0T a].toArray:=by kernel_rfl
theorem bt156_0_1 (a:Option Addr)(b c:Nat)(d:Bool):Tryz.prog.built 156 [(0,.slice a b c),(1,vb d)]=some [.slice a b c,vb d].toArray:=by kernel_rfl
theorem bt156_1 (a:Bool):Tryz.prog.built 156 [(1,vb a)]=some [.slice none 0 0,vb a].toArray:=by kernel_rfl
theorem bt160_0_1 (a0T:TypeId)(a:Value)(a1T:TypeId)(b:Value):Tryz.prog.built 160 [(0,.iface a0T a),(1,.iface a1T b)]=some [.iface a0T a,.iface a1T b,i6 0,vb false].toArray:=by kernel_rfl
theorem bt163_0 (a0T:TypeId)(a:Value):Tryz.prog.built 163 [(0,.iface a0T a)]=some [.iface a0T a,i6 0,vb false].toArray:=by kernel_rfl
theorem bCj (a:Int):Tryz.prog.built 175 [(0,i6 a)]=some [i6 a].toArray:=by kernel_rfl
theorem aTc (a b c:Int):Tryz.prog.built 177 [(0,i6 a),(1,i6 b),(2,i6 c)]=some [i6 a,i6 b,i6 c].toArray:=by kernel_rfl
theorem aIs (a b c d e:Int):Tryz.prog.built 179 [(0,i6 a),(1,i6 b),(2,i6 c),(3,i6 d),(4,i6 e)]=some [i6 a,i6 b,i6 c,i6 d,i6 e].toArray:=by kernel_rfl
theorem bt181_0 (a:Int):Tryz.prog.built 181 [(0,i6 a)]=some [i6 a].toArray:=by kernel_rfl
theorem bt183_0 (a:Int):Tryz.prog.built 183 [(0,i6 a)]=some [i6 a].toArray:=by kernel_rfl
theorem aPa (a b:Int):Tryz.prog.built 250 [(0,i6 a),(1,i6 b)]=some [i6 a,i6 b].toArray:=by kernel_rfl
theorem bt254_0 (a:Bool):Tryz.prog.built 254 [(0,vb a)]=some [vb a,vb false,vb false,vb false,vb false,i6 0,i6 0].toArray:=by kernel_rfl
theorem aUz (a b c:Bool):Tryz.prog.built 254 [(0,vb a),(1,vb b),(2,vb c)]=some [vb a,vb b,vb c,vb false,vb false,i6 0,i6 0].toArray:=by kernel_rfl
theorem aVn (a b c:Bool):Tryz.prog.built 254 [(0,vb a),(2,vb b),(3,vb c)]=some [vb a,vb false,vb b,vb c,vb false,i6 0,i6 0].toArray:=by kernel_rfl
theorem aVh (a b c:Bool):Tryz.prog.built 254 [(0,vb a),(3,vb b),(4,vb c)]=some [vb a,vb false,vb false,vb b,vb c,i6 0,i6 0].toArray:=by kernel_rfl
theorem aNr (a b:Bool)(c d:Int):Tryz.prog.built 254 [(3,vb a),(4,vb b),(5,i6 c),(6,i6 d)]=some [vb false,vb false,vb false,vb a,vb b,i6 c,i6 d].toArray:=by kernel_rfl
theorem aWb (a:Bool)(b c:Int):Tryz.prog.built 254 [(4,vb a),(5,i6 b),(6,i6 c)]=some [vb false,vb false,vb false,vb false,vb a,i6 b,i6 c].toArray:=by kernel_rfl
theorem aHk (a b:Int):Tryz.prog.built 254 [(5,i6 a),(6,i6 b)]=some [vb false,vb false,vb false,vb false,vb false,i6 a,i6 b].toArray:=by kernel_rfl
abbrev gW (b:Nat):Value:= .pointer (some ⟨b,0,none⟩)
def FAt (t i m:Nat):Prop:= ∀{ρ:Env}{w:World}{d:Option Tmp}{x:Operand}{ty:TypeId}{pos:String}{af:Array Edge}{g:Option (Nat×Bool)}{b o:Nat} (_:ev ρ x= .pointer (some ⟨b,o,none⟩)),Do Tryz.prog ⟨d,.fieldAddr t x i,ty,pos,af,g⟩ ρ w (.pointer (some ⟨b,o+m,none⟩)) w
theorem faO {t i m:Nat}(n:Nat)(h:aKo Tryz.prog t i=some (m,some n):=by kernel_rfl)(hn:n≠0:=by decide):FAt t i m:=λhx=>aNx h hn hx
theorem aP:FAt 26 0 0:=faO 1
theorem pK:FAt 26 1 1:=faO 1
theorem kM:FAt 26 2 2:=faO 1
theorem aEo:FAt 54 0 0:=faO 1
theorem aXw:FAt 64 0 0:=faO 1
theorem fa64_1:FAt 64 1 1:=faO 1
theorem aCj:FAt 64 2 2:=faO 1
theorem aEn:FAt 64 3 3:=faO 1
theorem aHn:FAt 64 4 4:=faO 1
theorem fa69_0:FAt 69 0 0:=faO 1
theorem fa69_1:FAt 69 1 1:=faO 1
theorem aWk:FAt 69 2 2:=faO 1
theorem mV:FAt 72 0 0:=faO 1
theorem wO:FAt 72 1 1:=faO 1
theorem aEg:FAt 77 0 0:=faO 3
theorem aRx:FAt 77 1 3:=faO 1
theorem aYw:FAt 77 2 4:=faO 1
theorem fa77_3:FAt 77 3 5:=faO 1
theorem aHj:FAt 77 4 6:=faO 1
theorem aHa:FAt 77 5 7:=faO 1
theorem uA:FAt 77 6 8:=faO 1
theorem aWs:FAt 77 7 9:=faO 1
theorem aYn:FAt 77 8 10:=faO 1
theorem aNb:FAt 77 9 11:=faO 1
theorem bP:FAt 81 0 0:=faO 1
theorem kR:FAt 81 1 1:=faO 1
theorem aCn:FAt 81 2 2:=faO 1
theorem vJ:FAt 81 3 3:=faO 1
theorem nH:FAt 81 4 4:=faO 1
theorem jT:FAt 81 5 5:=faO 1
theorem aB:FAt 81 6 6:=faO 1
theorem rX:FAt 85 0 0:=faO 7
theorem aBb:FAt 85 1 7:=faO 1
theorem fa85_2:FAt 85 2 8:=faO 1
theorem mO:FAt 85 3 9:=faO 1
theorem fa85_4:FAt 85 4 10:=faO 1
theorem aCk:FAt 85 5 11:=faO 1
theorem aBs:FAt 85 6 12:=faO 1
theorem aEj:FAt 85 7 13:=faO 1
theorem aEd:FAt 85 8 14:=faO 1
theorem aLs:FAt 85 9 15:=faO 1
theorem qC:FAt 85 10 16:=faO 1
theorem rC:FAt 85 11 17:=faO 1
theorem aEi:FAt 89 0 0:=faO 1
theorem aSo:FAt 98 0 0:=faO 1
theorem aQn:FAt 98 1 1:=faO 1
theorem aBo:FAt 98 2 2:=faO 7
theorem wG:FAt 100 0 0:=faO 1
theorem qW:FAt 100 1 1:=faO 7
theorem aJz:FAt 107 0 0:=faO 1
theorem wJ:FAt 107 1 1:=faO 1
theorem sS:FAt 109 0 0:=faO 1
theorem aIz:FAt 109 1 1:=faO 2
theorem bBp:FAt 109 2 3:=faO 1
theorem aGq:FAt 114 0 0:=faO 1
theorem aJn:FAt 114 1 1:=faO 1
theorem fa114_2:FAt 114 2 2:=faO 1
theorem bBx:FAt 114 3 3:=faO 1
theorem qE:FAt 121 0 0:=faO 1
theorem fa121_2:FAt 121 2 2:=faO 1
theorem aBr:FAt 121 3 3:=faO 1
theorem aBk:FAt 123 0 0:=faO 1
theorem qB:FAt 123 1 1:=faO 1
theorem bU:FAt 123 2 2:=faO 4
theorem aKc:FAt 123 3 6:=faO 3
theorem fa125_1:FAt 125 1 1:=faO 1
theorem aRf:FAt 129 1 1:=faO 1
theorem aJb:FAt 138 0 0:=faO 1
theorem aSv:FAt 138 1 1:=faO 1
theorem aKd:FAt 138 2 2:=faO 1
theorem fa146_0:FAt 146 0 0:=faO 1
theorem fa146_1:FAt 146 1 1:=faO 1
theorem aZt:FAt 146 2 2:=faO 1
theorem aFg:FAt 146 3 3:=faO 1
theorem aJe:FAt 150 0 0:=faO 1
theorem bAj:FAt 150 1 1:=faO 1
theorem bAf:FAt 150 2 2:=faO 1
theorem uQ:FAt 150 3 3:=faO 1
theorem aFe:FAt 150 4 4:=faO 3
theorem aRk:FAt 153 0 0:=faO 1
theorem aGa:FAt 156 0 0:=faO 1
theorem bBt:FAt 156 1 1:=faO 1
theorem aJf:FAt 160 0 0:=faO 1
theorem aJj:FAt 160 1 1:=faO 1
theorem aQs:FAt 160 2 2:=faO 1
theorem bCf:FAt 160 3 3:=faO 1
theorem aJy:FAt 163 0 0:=faO 1
theorem aRz:FAt 163 1 1:=faO 1
theorem bBz:FAt 163 2 2:=faO 1
theorem fa175_0:FAt 175 0 0:=faO 1
theorem fa177_0:FAt 177 0 0:=faO 1
theorem fa177_1:FAt 177 1 1:=faO 1
theorem fa177_2:FAt 177 2 2:=faO 1
theorem fa179_0:FAt 179 0 0:=faO 1
theorem fa179_1:FAt 179 1 1:=faO 1
theorem fa179_2:FAt 179 2 2:=faO 1
theorem fa179_3:FAt 179 3 3:=faO 1
theorem fa179_4:FAt 179 4 4:=faO 1
theorem fa181_0:FAt 181 0 0:=faO 1
theorem fa183_0:FAt 183 0 0:=faO 1
theorem aDg:FAt 229 0 0:=faO 1
theorem aKa:FAt 229 1 1:=faO 1
theorem aJo:FAt 229 2 2:=faO 1
theorem fa250_0:FAt 250 0 0:=faO 1
theorem aKb:FAt 250 1 1:=faO 1
theorem bBk:FAt 254 0 0:=faO 1
theorem bAt:FAt 254 1 1:=faO 1
theorem bCe:FAt 254 2 2:=faO 1
theorem bAy:FAt 254 3 3:=faO 1
theorem bAh:FAt 254 4 4:=faO 1
theorem fa254_5:FAt 254 5 5:=faO 1
theorem fa254_6:FAt 254 6 6:=faO 1
abbrev fZ:=f1 Rp.str
abbrev dF:=f1 dB
abbrev bY:=f1 eY
abbrev aH:=f1 Rp.bool
abbrev aI:=f1 fV
abbrev jR:=f1 bH
abbrev uO:=f1 (Rp.int .i64)
abbrev aDo:=f1 aHm
abbrev eX:=Rt.row (Rt.of (Rp.int .i64)) 3 []
abbrev cO:=Rt.row dD 85 []
abbrev mF:=Rt.row kV 69 []
abbrev kS:=Rt.row eU 67 []
abbrev aGy:=Rt.row (Rt.of fM) 250 []
abbrev aWd:=Rt.row (Rt.of bH) 72 []
abbrev rw_6:=Rt.row (Rt.of (Rp.int .i8)) 224 []
section
variable {O S:List Nat}{v w:World}{a b c d e f g i j k l m n o p q r s t u x y z A B C D E F:Th}
abbrev hh (p:Prop):Prop:=p->p
theorem un1:hh (Hd O v w S [a]):=id
theorem un2:hh (Hd O v w S [a,b]):=id
theorem un3:hh (Hd O v w S [a,b,c]):=id
theorem un4:hh (Hd O v w S [a,b,c,d]):=id
theorem un5:hh (Hd O v w S [a,b,c,d,e]):=id
theorem un6:hh (Hd O v w S [a,b,c,d,e,f]):=id
theorem un7:hh (Hd O v w S [a,b,c,d,e,f,g]):=id
theorem un8:hh (Hd O v w S [a,b,c,d,e,f,g,i]):=id
theorem un9:hh (Hd O v w S [a,b,c,d,e,f,g,i,j]):=id
theorem jF:hh (Hd O v w S [a,b,c,d,e,f,g,i,j,k]):=id
theorem kD:hh (Hd O v w S [a,b,c,d,e,f,g,i,j,k,l]):=id
theorem dY:hh (Hd O v w S [a,b,c,d,e,f,g,i,j,k,l,m]):=id
theorem dL:hh (Hd O v w S [a,b,c,d,e,f,g,i,j,k,l,m,n]):=id
theorem aT:hh (Hd O v w S [a,b,c,d,e,f,g,i,j,k,l,m,n,o]):=id
theorem qZ:hh (Hd O v w S [a,b,c,d,e,f,g,i,j,k,l,m,n,o,p]):=id
theorem qO:hh (Hd O v w S [a,b,c,d,e,f,g,i,j,k,l,m,n,o,p,q]):=id
theorem aG:hh (Hd O v w S [a,b,c,d,e,f,g,i,j,k,l,m,n,o,p,q,r]):=id
theorem rZ:hh (Hd O v w S [a,b,c,d,e,f,g,i,j,k,l,m,n,o,p,q,r,s]):=id
theorem aIp:hh (Hd O v w S [a,b,c,d,e,f,g,i,j,k,l,m,n,o,p,q,r,s,t]):=id
theorem un20:hh (Hd O v w S [a,b,c,d,e,f,g,i,j,k,l,m,n,o,p,q,r,s,t,u]):=id
theorem un21:hh (Hd O v w S [a,b,c,d,e,f,g,i,j,k,l,m,n,o,p,q,r,s,t,u,x]):=id
theorem un22:hh (Hd O v w S [a,b,c,d,e,f,g,i,j,k,l,m,n,o,p,q,r,s,t,u,x,y]):=id
theorem un23:hh (Hd O v w S [a,b,c,d,e,f,g,i,j,k,l,m,n,o,p,q,r,s,t,u,x,y,z]):=id
theorem un24:hh (Hd O v w S [a,b,c,d,e,f,g,i,j,k,l,m,n,o,p,q,r,s,t,u,x,y,z,A]):=id
theorem un26:hh (Hd O v w S [a,b,c,d,e,f,g,i,j,k,l,m,n,o,p,q,r,s,t,u,x,y,z,A,B,C]):=id
theorem un27:hh (Hd O v w S [a,b,c,d,e,f,g,i,j,k,l,m,n,o,p,q,r,s,t,u,x,y,z,A,B,C,D]):=id
theorem un29:hh (Hd O v w S [a,b,c,d,e,f,g,i,j,k,l,m,n,o,p,q,r,s,t,u,x,y,z,A,B,C,D,E,F]):=id
end
section
variable {P:Program}{N:Nat}{ops:Array Oper}{Q:Exit->Env->World->Prop}{rest:List Oper}{ρ:Env}{w:World}{d f:Nat}{t u ty tz:TypeId}{x y:Operand}{pos qos:String}{af bf:Array Edge}{g h:Option (Nat×Bool)}{b o m i:Nat}
theorem nf (hx:ev ρ x= .pointer (some ⟨b,o,none⟩))(fa:FAt t i m)(n:RL Tryz.prog N ops Q rest (upd (upd ρ d (.pointer (some ⟨b,o,none⟩))) f (.pointer (some ⟨b,o+m,none⟩))) w)(hy:ev (upd ρ d (.pointer (some ⟨b,o,none⟩))) y= .pointer (some ⟨b,o,none⟩):=by exact rfl)(hw:fU N ops ρ ⟨some d,.nilCheck x,ty,pos,af,g⟩=true:=by exact rfl)(hd:Nat.blt d N=true:=by exact rfl)(hv:fU N ops (upd ρ d (.pointer (some ⟨b,o,none⟩))) ⟨some f,.fieldAddr t y i,tz,qos,bf,h⟩=true:=by exact rfl)(hf:Nat.blt f N=true:=by exact rfl):RL Tryz.prog N ops Q (⟨some d,.nilCheck x,ty,pos,af,g⟩::⟨some f,.fieldAddr t y i,tz,qos,bf,h⟩::rest) ρ w:=zK (xW hx) (zK (fa hy) n hv hf) hw hd
theorem Xn {I:World->Prop}{κ:List MxM.Kd}{K:MxM.Mm->Env->World->Prop}{k q:Nat}{M:MxM.Mm}{σ:List Nat}(hx:ev ρ x= .pointer (some ⟨b,o,none⟩))(fa:FAt t i m)(n:MxM.XL Tryz.prog I N ops κ K M σ rest (upd (upd ρ d (.pointer (some ⟨b,o,none⟩))) f (.pointer (some ⟨b,o+m,none⟩))) w)(hy:ev (upd ρ d (.pointer (some ⟨b,o,none⟩))) y= .pointer (some ⟨b,o,none⟩):=by exact rfl)(hk:MxM.kdOf κ k= .pure:=by exact rfl)(hq:MxM.kdOf κ q= .pure:=by exact rfl)(hw:fU N ops ρ ⟨some d,.nilCheck x,ty,pos,af,g⟩=true:=by exact rfl)(hd:Nat.blt d N=true:=by exact rfl)(hv:fU N ops (upd ρ d (.pointer (some ⟨b,o,none⟩))) ⟨some f,.fieldAddr t y i,tz,qos,bf,h⟩=true:=by exact rfl)(hf:Nat.blt f N=true:=by exact rfl):MxM.XL Tryz.prog I N ops κ K M (k::q::σ) (⟨some d,.nilCheck x,ty,pos,af,g⟩::⟨some f,.fieldAddr t y i,tz,qos,bf,h⟩::rest) ρ w:=XQ (xW hx) (XQ (fa hy) n hq hv hf) hk hw hd
theorem nJ {I:World->Prop}{κ:List MxM.Kd}{K:MxM.Mm->Env->World->Prop}{M:MxM.Mm}{σ O S:List Nat}{v u:World}{l r:List Th}(G:Hd O v u S r)(H:Hd O u w (bks r) l)(n: ∀a,Hd O v a S l->K M ρ a):MxM.XL P I N ops κ K M σ [] ρ w:=MxM.yZ λa s=>n a (G.rj (H.Z s))
theorem RH {O S bs:List Nat}{v:World}{l:List Th}{α:Type}{R:Go.Lf.Rt α}{e:TypeId}{D:Hol}{c:List Value}{xl:List α}{j:Int}{a:α}{z y:Value}{n p:Nat}(f:aCb P t)(H:Hd O v w S l)(i q:Nat)(hi:l[i]? =some (.tr (Rt.row R e ((j.toNat,c)::D)) [z] bs xl))(hv:z= .slice (some ⟨b,o,none⟩) n p)(hx:at' xl j=some a)(hq:c[q]? =some y)(k:RL P N ops Q rest (upd ρ d y) w)(he:ev ρ x= .pointer (some ⟨b,o+j.toNat*R.sz+q,none⟩):=by exact rfl)(hw:fU N ops ρ ⟨some d,.load t x,ty,pos,af,g⟩=true:=by exact rfl)(hd:Nat.blt d N=true:=by exact rfl):RL P N ops Q (⟨some d,.load t x,ty,pos,af,g⟩::rest) ρ w:=zK (yB f he (Cells.get (H.holeW i hi hv hx Z aA) hq)) k hw hd
theorem XH {h:World}{r:List Nat}{κ:List MxM.Kd}{K:MxM.Mm->Env->World->Prop}{k:Nat}{M:MxM.Mm}{σ O S bs:List Nat}{v:World}{l:List Th}{α:Type}{R:Go.Lf.Rt α}{e:TypeId}{D:Hol}{c:List Value}{xl:List α}{j:Int}{a:α}{z y:Value}{n p:Nat}(u:aCb P t)(H:Hd O v w S l)(i q:Nat)(hi:l[i]? =some (.tr (Rt.row R e ((j.toNat,c)::D)) [z] bs xl))(hv:z= .slice (some ⟨b,o,none⟩) n p)(hx:at' xl j=some a)(hq:c[q]? =some y)(m:MxM.XL P (λf=>Only r h f) N ops κ K M σ rest (upd ρ d y) w)(he:ev ρ x= .pointer (some ⟨b,o+j.toNat*R.sz+q,none⟩):=by exact rfl)(hk:MxM.kdOf κ k= .read:=by exact rfl)(hw:fU N ops ρ ⟨some d,.load t x,ty,pos,af,g⟩=true:=by exact rfl)(hd:Nat.blt d N=true:=by exact rfl):MxM.XL P (λf=>Only r h f) N ops κ K M (k::σ) (⟨some d,.load t x,ty,pos,af,g⟩::rest) ρ w:=MxM.xC oS hk hw hd (λ_ s=>yB u he (Cells.get ((H.Z s).holeW i hi hv hx rfl aA) hq)) m
end
theorem _root_.Go.Lf.Hd.im {O S:List Nat}{v w:World}{l:List Th}(H:Hd O v w S l)(i:Nat){it:Th}(h:l[i]? =some it):it.holds (frees O l) w:=H.V h
theorem _root_.Go.Lf.Hm.im {n:Nat}{A:Nat->Prop}{O S:List Nat}{v w:World}{l:List Th}(H:Hm n A O v w S l)(i:Nat){it:Th}(h:l[i]? =some it):it.holds (frm O l v) w:=H.V h
theorem p1z {P:Program}{R:Ending->World->Prop}{ρ:Env}{w:World}{rs:Array ResultVar}{t:Tmp}{v:Value}(h:R (.returned v) w)(hr:rs= #[.tmp t]:=by exact rfl)(a:ρ t=v:=by exact rfl):aAk P rs R .ret ρ w:=aLc hr a h
theorem en6:En 6:=fH Tryz.func6
theorem en10:En 10:=fH Tryz.func10
theorem en11:En 11:=fH Tryz.func11
theorem en12:En 12:=fH Tryz.func12
theorem en22:En 22:=fH Tryz.func22
theorem aTg:En 24:=fH Tryz.func24
theorem aXq:En 26:=fH Tryz.func26
theorem en29:En 29:=fH Tryz.func29
theorem en30:En 30:=fH Tryz.func30
theorem aUx:En 33:=fH Tryz.func33
theorem en34:En 34:=fH Tryz.func34
theorem en35:En 35:=fH Tryz.func35
theorem en38:En 38:=fH Tryz.func38
theorem en40:En 40:=fH Tryz.func40
theorem en41:En 41:=fH Tryz.func41
theorem en47:En 47:=fH Tryz.func47
theorem en51:En 51:=fH Tryz.func51
theorem en55:En 55:=fH Tryz.func55
theorem en57:En 57:=fH Tryz.func57
theorem en60:En 60:=fH Tryz.func60
theorem en61:En 61:=fH Tryz.func61
theorem en62:En 62:=fH Tryz.func62
theorem en67:En 67:=fH Tryz.func67
theorem en71:En 71:=fH Tryz.func71
theorem en73:En 73:=fH Tryz.func73
theorem aYb:En 74:=fH Tryz.func74
theorem en75:En 75:=fH Tryz.func75
theorem en76:En 76:=fH Tryz.func76
theorem en77:En 77:=fH Tryz.func77
theorem en78:En 78:=fH Tryz.func78
theorem en80:En 80:=fH Tryz.func80
theorem aXh:En 82:=fH Tryz.func82
theorem aWi:En 83:=fH Tryz.func83
theorem en84:En 84:=fH Tryz.func84
theorem en85:En 85:=fH Tryz.func85
theorem en86:En 86:=fH Tryz.func86
theorem en89:En 89:=fH Tryz.func89
theorem en91:En 91:=fH Tryz.func91
theorem en95:En 95:=fH Tryz.func95
theorem aLf:En 96:=fH Tryz.func96
theorem en98:En 98:=fH Tryz.func98
theorem en99:En 99:=fH Tryz.func99
theorem en100:En 100:=fH Tryz.func100
theorem aIo:En 101:=fH Tryz.func101
theorem en103:En 103:=fH Tryz.func103
theorem en113:En 113:=fH Tryz.func113
theorem en114:En 114:=fH Tryz.func114
theorem en115:En 115:=fH Tryz.func115
theorem en117:En 117:=fH Tryz.func117
theorem en121:En 121:=fH Tryz.func121
theorem en122:En 122:=fH Tryz.func122
theorem en123:En 123:=fH Tryz.func123
theorem en125:En 125:=fH Tryz.func125
theorem bAq:En 129:=fH Tryz.func129
theorem en130:En 130:=fH Tryz.func130
theorem en131:En 131:=fH Tryz.func131
theorem aMm:En 132:=fH Tryz.func132
theorem en137:En 137:=fH Tryz.func137
theorem bCi:En 140:=fH Tryz.func140
theorem aZo:En 154:=fH Tryz.func154
theorem en159:En 159:=fH Tryz.func159
theorem bCg:En 166:=fH Tryz.func166
theorem en167:En 167:=fH Tryz.func167
theorem en222:En 222:=fH Tryz.func222
theorem en223:En 223:=fH Tryz.func223
theorem en225:En 225:=fH Tryz.func225
theorem en226:En 226:=fH Tryz.func226
theorem en228:En 228:=fH Tryz.func228
theorem en229:En 229:=fH Tryz.func229
theorem en231:En 231:=fH Tryz.func231
theorem en232:En 232:=fH Tryz.func232
theorem en233:En 233:=fH Tryz.func233
theorem en234:En 234:=fH Tryz.func234
theorem en235:En 235:=fH Tryz.func235
theorem en236:En 236:=fH Tryz.func236
theorem en237:En 237:=fH Tryz.func237
theorem en238:En 238:=fH Tryz.func238
theorem en239:En 239:=fH Tryz.func239
theorem en240:En 240:=fH Tryz.func240
theorem en241:En 241:=fH Tryz.func241
theorem en242:En 242:=fH Tryz.func242
theorem aUe:En 243:=fH Tryz.func243
theorem en244:En 244:=fH Tryz.func244
theorem en245:En 245:=fH Tryz.func245
theorem en247:En 247:=fH Tryz.func247
theorem en248:En 248:=fH Tryz.func248
theorem en249:En 249:=fH Tryz.func249
theorem en250:En 250:=fH Tryz.func250
theorem mixed:Tryz.prog.follows .mixedOrders=true:=by kernel_rfl
theorem Fcjw {b:Int}{r:Bool}(a:Fcj b=some r)(H:Hd O w w S []):
  Rt 99 [.int .u8 b] (vb r) w O S []:=by
 refine CW 21 Tryz.func99 ?_;refine SR<|zA (vb false)<|RM<|bE a λe a f=>sJ H (rg [2,19]) [(2,vb e)] ?_ ?_;refine zD<|zB (.int .u8 b)<|aBz a λn a=>bE a λh a i=>wB 4 [5,6,7,8] [(8,vb h)] (λwl=>Hd O w wl S []) ?_ ?_;refine RJ a (λa=>zB (.int .u8 b)<|aIr a λj a=>pt (vb j) ?_) λa=>?_;cases a;exact jn<|meet ⟨(yJ Z yV),H.U []⟩;refine zS<|zS<|pf (vb false) ?_;cases a;exact jn<|meet ⟨(yJ Z yV),H.U []⟩;rintro ρ o H;have a:=i;refine bE a λk a l=>wB 8 [9,10,11,12,13,14,15,16] [(16,vb k)] (λwl=>Hd O w wl S []) ?_ ?_;refine RJ a (λa=>zS<|zS<|zS<|zS<|zS<|zS<|pt (vb true) ?_) λa=>?_;cases a;exact jn<|meet ⟨(yJ Z yV),H.U []⟩;refine zB (.int .u8 b)<|aBz a λp a=>RJ a (λa=>zB (.int .u8 b)<|aIr a λc a=>pt (vb c)<|pf (vb c) ?_) λa=>?_;cases a;exact jn<|meet ⟨(yJ Z yV),H.U []⟩;refine zS<|zS<|pf (vb false)<|pf (vb false) ?_;cases a;exact jn<|meet ⟨(yJ Z yV),H.U []⟩;rintro ρ q H;have a:=l;refine RJ a (λa=>zS<|zS<|pt (vb true)<|zA (vb true) ?_) λa=>?_;cases a;exact jn<|mt () (H.U []);refine zB (.int .u8 b)<|fG a λd a=>pf (vb d)<|zA (vb d) ?_;cases a;exact jn<|mt () (H.U []);rintro _ ρ s H;have a:=f;cases a;exact zH<|p1z ⟨Z,H.U []⟩
theorem Fcsw {b:Str}{r:Bool}(a:Fcs b=some r)(H:Hd O w w S []):
  Rt 98 [sb b] (vb r) w O S []:=by
 refine CW 21 Tryz.func98 ?_;refine SR<|zA (vb false)<|RM<|SQ<|SR<|zB (sb b)<|RM<|zJ<|bE a λc a d=>sJ H (rg [4,17]) [(4,vb c)] ?_ ?_;refine SR<|RLb a (xJ (s1:=b) (s2:=[112,104,97,115,101]) Z Z) λe a=>zA (vb e)<|RM<|WJ a ?_ ?_<;>intro a;cases a;exact js<|mt () (H.U []);refine SR<|RLb a (xJ (s1:=b) (s2:=[109,111,118,101]) Z Z) λf a=>zA (vb f)<|RM<|WJ a ?_ ?_<;>intro a;cases a;exact js<|mt () (H.U []);refine SR<|RLb a (xJ (s1:=b) (s2:=[114,117,108,101]) Z Z) λh a=>zA (vb h)<|RM<|WJ a ?_ ?_<;>intro a;cases a;exact js<|mt () (H.U []);refine SR<|RLb a (xJ (s1:=b) (s2:=[105,102]) Z Z) λi a=>zA (vb i)<|RM<|WJ a ?_ ?_<;>intro a;cases a;exact js<|mt () (H.U []);refine SR<|RLb a (xJ (s1:=b) (s2:=[111,114]) Z Z) λj a=>zA (vb j)<|RM<|WJ a ?_ ?_<;>intro a;cases a;exact js<|mt () (H.U []);refine SR<|RLb a (xJ (s1:=b) (s2:=[97,110,100]) Z Z) λk a=>zA (vb k)<|RM<|WJ a ?_ ?_<;>intro a;cases a;exact js<|mt () (H.U []);refine SR<|RLb a (xJ (s1:=b) (s2:=[116,114,117,101]) Z Z) λl a=>zA (vb l)<|RM<|WJ a ?_ ?_<;>intro a;cases a;exact js<|mt () (H.U []);refine SR<|RLb a (xJ (s1:=b) (s2:=[102,97,108,115,101]) Z Z) λn a=>zA (vb n)<|RM<|WJ a ?_ ?_<;>intro a;cases a;exact js<|mt () (H.U []);refine SR<|RLb a (xJ (s1:=b) (s2:=[115,116,101,97,100,121]) Z Z) λo a=>zA (vb o)<|RM<|WJ a ?_ ?_<;>intro a;cases a
 exact js<|mt () (H.U []);refine SR<|RLb a (xJ (s1:=b) (s2:=[110,111,116]) Z Z) λp a=>zA (vb p)<|RM<|WJ a ?_ ?_<;>intro a;cases a;exact js<|mt () (H.U []);refine SR<|RLb a (xJ (s1:=b) (s2:=[102,111,114]) Z Z) λq a=>zA (vb q)<|RM<|WJ a ?_ ?_<;>intro a;cases a;exact js<|mt () (H.U []);refine SR<|RLb a (xJ (s1:=b) (s2:=[119,105,116,104,105,110]) Z Z) λs a=>zA (vb s)<|RM<|WJ a ?_ ?_<;>intro a;cases a;exact js<|mt () (H.U []);refine SR<|RLb a (xJ (s1:=b) (s2:=[99,111,117,110,116]) Z Z) λt a=>zA (vb t)<|RM<|WJ a ?_ ?_<;>intro a;cases a;exact js<|mt () (H.U []);refine SR<|RLb a (xJ (s1:=b) (s2:=[111,102]) Z Z) λu a=>zA (vb u)<|RM<|WJ a ?_ ?_<;>intro a;cases a;exact js<|mt () (H.U []);refine SR<|RLb a (xJ (s1:=b) (s2:=[114,105,115,101,115]) Z Z) λv a=>zA (vb v)<|RM<|WJ a ?_ ?_<;>intro a;cases a;exact js<|mt () (H.U []);refine zD<|RLb a (xJ (s1:=b) (s2:=[115,105,110,99,101]) Z Z) λx a=>zA (vb x) ?_;cases a;exact jn<|mt () (H.U []);rintro _ ρ y H;have a:=d;refine WJ a (λa=>SR<|zA (vb true)<|RM ?_) λa=>?_;cases a;exact zH<|zL<|zG<|p1z ⟨Z,H.U []⟩;refine yF<|zO<|zF<|KN<|SR<|zA (vb false)<|RM ?_;cases a;exact zH<|p1z ⟨Z,H.U []⟩
theorem aUw {b c d:Int}{r:Bool}(a:Fak b c d=some r)(H:Hd O w w S []):
  Rt 24 [i6 b,i6 c,i6 d] (vb r) w O S []:=by
 refine CW 15 Tryz.func24 ?_;refine SR<|zA (vb false)<|RM<|bE a λf a h=>sJ H (rg [6,9]) [(6,vb f)] ?_ ?_;refine zD<|zB (i6 b)<|zB (i6 c)<|aBz a λi a=>RJ a (λa=>?_) (λa=>?_);refine zB (i6 b)<|zB (i6 d)<|aIr a λe a=>pt (vb e)<|zA (vb e) ?_;cases a;exact jn<|mt () (H.U []);refine zS<|zS<|zS<|pf (vb false)<|zA (vb false) ?_;cases a;exact jn<|mt () (H.U []);rintro _ ρ j H;have a:=h;cases a;exact zH<|p1z ⟨rfl,H.U []⟩
theorem Favw {b:Str}{r:Bool}(a:Fav b=some r)(H:Hd O w w S []):
  Rt 61 [sb b] (vb r) w O S []:=by
 refine CW 33 Tryz.func61 ?_;refine SR<|zA (vb false)<|RM<|SQ<|bE a λd a e=>sJ H (rg [4,18]) [(21,vb d)] ?_ ?_;refine zD<|zB (sb b)<|RLi a (jQ (s1:=b) u9 Z) λA a=>bE a λB f a=>RC aTg (aUw f (H.W [] [])) H λC H=>bT a λD a=>bE a λh a i=>wB 5 [8,9,10,11,12] [(12,vb h)] (λwl=>Hd O w wl S []) ?_ ?_;refine RJ a (λa=>zS<|zS<|zS<|pt (vb true) ?_) λa=>?_;cases a;exact jn<|meet ⟨(yJ Z yV),H.U []⟩;refine zB (sb b)<|bE a λE j a=>zK (aDf (s1:=b) (q:=0) u9 Z Z j)<|eG a λk a=>pf (vb k) ?_;cases a;exact jn<|meet ⟨(yJ Z yV),H.U []⟩;rintro ρ F H;have a:=i;refine bE a λl a n=>wB 5 [13,14,15,16,17] [(17,vb l)] (λwl=>Hd O w wl S []) ?_ ?_;refine RJ a (λa=>zS<|zS<|zS<|pt (vb true) ?_) λa=>?_;cases a;exact jn<|meet ⟨(yJ Z yV),H.U []⟩;refine zB (sb b)<|bE a λ_ o a=>zK (aDf (s1:=b) (q:=0) u9 Z Z o)<|pU a λp a=>pf (vb p) ?_;cases a;exact jn<|meet ⟨(yJ Z yV),H.U []⟩;rintro ρ _ H;have a:=n;refine RJ a (λa=>zS<|zS<|pt (vb true) ?_) λa=>?_;cases a;exact jn<|mt () (H.U []);refine zB (sb b)<|bE a λs t a=>RC en98 (Fcsw t (H.W [] [])) H λ_ H=>pf (vb s) ?_;cases a;exact jn<|mt () (H.U []);rintro _ ρ _ H;have a:=e;refine WJ a (λa=>SR<|zA (vb false)<|RM ?_) λa=>?_;cases a;exact zH<|zG<|p1z ⟨Z,H.U []⟩;refine WZ<|jk a H (rg [2,2,22,11]) (λx (y:Unit)=>[]) (λx y=>[]) [] (λ_ a=>?_) ?_;refine SR<|zB (sb b)<|RLi a (jQ (s1:=b) u9 Z) λ_ a=>zB (i6 0)<|RM<|zJ<|lo a H (rg [2,2,24,9]) (λx (y:Unit)=>[(24,i6 x)]) (λx y=>[]) [] () (H.U []) ?_
 clear H a;rintro N c _ ρ P H a;refine SR<|eG a λQ a=>RM<|SQ<|WJ a (λa=>WZ<|SQ<|zJ<|SR<|zB (i6 c)<|zA (i6 c)<|RM<|SR<|zB (sb b)<|zB (i6 c)<|bE a λ_ u a=>zK (aDf (s1:=b) (q:=c) u9 Z Z u)<|bE a λT v a=>RC en99 (Fcjw v (H.W [] [])) H λU H=>bT a λV a=>RM<|WJ a (λa=>SR<|zA (vb false)<|RM ?_) λa=>?_) λa=>?_;cases a;exact zH<|zL<|zG<|zG<|zL<|zG<|p1z ⟨Z,H.U []⟩;exact yF<|zO<|zF<|KN<|zD<|eH a λz a=>zB (i6 z)<|jn<|me a () (H.U []);exact yA<|zT<|zT<|zW<|zF<|me a () (H.U []);rintro _ _ ρ X H a;refine SR<|zA (vb true)<|RM ?_;cases a;exact zH<|p1z ⟨Z,H.U []⟩
theorem Faiw {e:List Str}{c:Str}{d:Value}{r:Int}(a:Fai e c=some r)(H:Hd O w w S [fZ d e]):
  Rt 40 [d,sb c] (i6 r) w O S []:=by
 refine CW 19 Tryz.func40 ?_;refine SR<|zA (i6 0)<|RM<|jk a H (rg [4,15]) (λx (y:Unit)=>[]) (λx y=>[]) [] (λj a=>?_) ?_;refine SR<|zB d<|ln a (H.im 0 Z) u22 λk a=>zB (i6 0)<|RM<|zJ<|lo a H (rg [4,2,8,11]) (λx (y:Unit)=>[(8,i6 x)]) (λx y=>[]) [0] () (H.U [0]) ?_;clear H a;rintro l b _ ρ n H a;have H:=un1 H;refine SR<|eG a λo a=>RM<|SQ<|WJ a (λa=>WZ<|SQ<|zJ<|SR<|zB (i6 b)<|zA (i6 b)<|RM<|SR<|zB (sb c)<|zB d<|zB (i6 b)<|bE a λf h a=>rea H (H.im 0 Z) (sb f) h u22 sz9 dC λp q H=>RLb a (xJ (s1:=c) (s2:=f) Z Z) λs a=>RM<|WJ a (λa=>SR<|zB (i6 b)<|zA (i6 b)<|RM ?_) λa=>?_) λa=>?_;cases a;exact zH<|zL<|zG<|zG<|zL<|zG<|p1z ⟨Z,H.U []⟩;exact yF<|zO<|zF<|KN<|zD<|eH a λi a=>zB (i6 i)<|jn<|me a () (H.U [0]);exact yA<|zT<|zT<|zW<|zF<|me a () (H.U []);rintro _ _ ρ t H a;refine SR<|zA (i6 (-1))<|RM ?_;cases a;exact zH<|p1z ⟨Z,H.U []⟩
theorem Fbow {d:List Str}{b:Str}{c:Value}{r:Bool}(a:Fbo d b=some r)(H:Hd O w w S [fZ c d]):
  Rt 62 [c,sb b] (vb r) w O S []:=by
 refine CW 9 Tryz.func62 ?_;refine SR<|zA (vb false)<|RM<|SR<|zB c<|zB (sb b)<|bE a λh e a=>RC en40 (Faiw e (H.W [] [0])) H λi H=>aBz a λf a=>zA (vb f)<|RM ?_;cases a;exact zH<|p1z ⟨Z,H.U []⟩
abbrev Fg9 (f:Cond->Int->Int->Option (Bool×Int)):Prop:= ∀(p0:Cond) (p1:Int) (p2:Int) (v1:Value) (b3:Nat) (r:Bool×Int) (_:f p0 p1 p2=some r) (O S:List Nat) (w:World) (_:Hd O w w S [.blk b3 [i6 p2] 3,dF v1 p0.Kids]),
  Cl 137 [.agg [i6 p0.Kind,sb p0.Name,sb p0.Other,i6 p0.Op,i6 p0.N,i6 p0.Frames,v1].toArray,i6 p1,gW b3] w λe w'=>e= .returned (vb r.1)/\Hd O w w' S [.blk b3 [i6 r.2] 3]
theorem Fdrw (rfC:Cond->Int->Int->Option (Bool×Int))(rhC:Fg9 rfC)(b:Cond)(f j:Int)(i:Value)(d:Nat)(r:Bool×Int)(a:Fdr rfC b f j=some r)(O S:List Nat)(w:World)(H:Hd O w w S [.blk d [i6 j] 3,dF i b.Kids]):
  Cl 137 [.agg [i6 b.Kind,sb b.Name,sb b.Other,i6 b.Op,i6 b.N,i6 b.Frames,i].toArray,i6 f,gW d] w λe l=>e= .returned (vb r.1)/\Hd O w l S [.blk d [i6 r.2] 3]:=by
 unfold Fdr at a;refine CW 36 Tryz.func137 ?_;refine SR<|xb (yU (cs:=[i6 b.Kind,sb b.Name,sb b.Other,i6 b.Op,i6 b.N,i6 b.Frames,i]) Z H) λ_ _ H=>zA (vb false)<|RM<|SR<|zB (gW d)<|zK (xW Z)<|Ld fC H 0 0 Z Z<|eH a λn a=>zK (xW Z)<|xu (yH H 0 Z sz3 Z (v:=i6 n) Z Z Z) λP H=>RM<|SQ<|bE a λo a p=>sJ H (rg [14,8]) [(21,vb o)] ?_ ?_;refine zD<|zB (i6 f)<|fG a λQ a=>RJ a (λa=>zS<|zS<|zS<|zS<|pt (vb true) ?_) λa=>?_;cases a;exact jn<|mt () (H.U [0,1,2]);refine zB (gW d)<|zK (xW Z)<|Ld fC H 0 0 Z Z<|pU a λq a=>pf (vb q) ?_;cases a;exact jn<|mt () (H.U [0,1,2]);rintro _ ρ _ H;have a:=p;refine WJ a (λa=>SR<|zA (vb false)<|RM ?_) λa=>?_;cases a;exact zH<|zG<|p1z ⟨Z,H.U [0]⟩;refine WZ<|jk a H (rg [6,1,8,1,22,14]) (λx (y:Unit)=>[]) (λx y=>[.blk d [i6 x] 3]) [0] (λT a=>?_) ?_;refine SR<|zK (aB Z)<|Ld jH H 2 6 Z Z<|ln a (H.im 1 Z) u79 λU a=>zB (i6 0)<|RM<|zJ ?_;unfold Ff4 at a;refine lo a H (rg [6,1,8,1,25,11]) (λx (y:Unit)=>[(25,i6 x.1)]) (λx y=>[.blk d [i6 x.2] 3]) [0,2] () (H.U [0,1]) ?_;clear H a;rintro V ⟨s,t⟩ _ ρ X H a;have H:=un2 H;refine SR<|eG a λY a=>RM<|SQ<|WJ a (λa=>WZ<|SQ<|zJ<|SR<|bE a λc k a=>?_) λa=>?_;obtain⟨u,z,_,_,A,B,C,D,E⟩:=xH (H.im 1 Z) k;obtain⟨h,rfl,F⟩:=xY B;have H:=H.fzs [.at u (z+s.toNat*7) _,.sl dB h c.Kids] ⟨⟨C,D,E⟩,F,T1⟩;refine ix u79 eP A k<|zK (yS (yC (cs:=[i6 c.Kind,sb c.Name,sb c.Other,i6 c.Op,i6 c.N,i6 c.Frames,h]) eQ Z eP Z (H.im 2 Z).2.2) Z)<|xb (yK nD H) λ_ _ H=>xu (zZ (vs:=[i6 c.Kind,sb c.Name,sb c.Other,i6 c.Op,i6 c.N,i6 c.Frames,h]) H 4 Z eP Z Z Z ⟨Z,Z,Z,Z,Z,Z,(xM (H.im 3 Z)),T1⟩ Z) λ_ H=>RM<|SR<|lb H 4 Z eQ eP<|zB (i6 f)<|aIu a λG a=>zB (gW d) ?_
 obtain⟨⟨af,_⟩,I,a⟩:=yD a;refine cAz en137 (rhC c G t h d _ I _ _ _ (H.W [0] [3])) λ_ J=>?_;have H:=un5<|H.back [0] [3] Z J;refine bT a λ_ a=>RM<|WJ a (λa=>SR<|zA (vb false)<|RM ?_) λa=>?_;cases a;exact zH<|zL<|zG<|zG<|zL<|zG<|p1z ⟨Z,H.U [4]⟩;exact yF<|zO<|zF<|KN<|zD<|eH a λK a=>zB (i6 K)<|jn<|me a () (H.U [4,0]);exact yA<|zT<|zT<|zW<|zF<|me a () (H.U [0]);rintro _ _ ρ _ H a;have H:=un1 H;refine SR<|zA (vb true)<|RM ?_;cases a;exact zH<|p1z ⟨Z,H.U [0]⟩
theorem Fkd:Fg9 (Fdw):=by
 have h: ∀n,Fg9 (Fau n):=by
  intro n
  induction n with
  |zero=>intro b c d e f r a;cases a
  |succ n ih=>intro b c d e f r a;exact Fdrw (Fau n) ih b c d e f r a
 exact h FU
theorem Faew {b:Int}{r:bD×Bool}(a:Fae b=some r)(H:Hd O w w S []):
  Rt 169 [i6 b] (.tuple #[.agg [vb r.1.name,vb r.1.other,vb r.1.op,vb r.1.n,vb r.1.frames,i6 r.1.least,i6 r.1.most].toArray,vb r.2]) w O S []:=by
 refine CW 41 Tryz.func169 ?_;refine SR<|xb (yK bCl H) λ_ _ H=>zA (vb false)<|RM<|SQ<|SR<|zB (i6 b)<|RM<|zJ<|bE a λc a d=>sJ H [5,6,7] [(5,vb c)] ?_ ?_;refine SR<|fG a λe a=>zA (vb e)<|RM<|WJ a ?_ ?_<;>intro a;cases a;exact js<|mt () (H.U [0]);refine zD<|fG a λf a=>zA (vb f) ?_;cases a;exact jn<|mt () (H.U [0]);rintro _ ρ _ H;have a:=d;refine WJ a (λa=>SR<|zK (yX (cs:=[vb false,vb false,vb false,vb false,vb false,i6 0,i6 0]) bz254)<|xu (zZ (vs:=[vb false,vb false,vb false,vb false,vb false,i6 0,i6 0]) H 0 Z nT Z Z Z ⟨Z,Z,Z,Z,Z,Z,Z,T1⟩ Z) λ_ H=>zA (vb true)<|RM ?_) λa=>?_;cases a;exact zH<|zL<|zG<|uI (v1:=vb true) Z Z (yO vU nT Z (Hbc H 0 Z)) Z ⟨Z,H.U []⟩;refine SR<|fG a λh a=>zA (vb h)<|RM<|WJ a (λa=>SR<|zK (yX (cs:=[vb true,vb false,vb true,vb true,vb false,i6 0,i6 0]) (aVn _ _ _))<|xu (zZ (vs:=[vb true,vb false,vb true,vb true,vb false,i6 0,i6 0]) H 0 Z nT Z Z Z ⟨Z,Z,Z,Z,Z,Z,Z,T1⟩ Z) λ_ H=>zA (vb true)<|RM ?_) λa=>?_;cases a;exact zH<|zL<|zG<|uI (v1:=vb true) Z Z (yO vU nT Z (Hbc H 0 Z)) Z ⟨Z,H.U []⟩;refine SR<|fG a λi a=>zA (vb i)<|RM<|WJ a (λa=>SR<|zK (yX (cs:=[vb true,vb true,vb true,vb false,vb false,i6 0,i6 0]) (aUz _ _ _))<|xu (zZ (vs:=[vb true,vb true,vb true,vb false,vb false,i6 0,i6 0]) H 0 Z nT Z Z Z ⟨Z,Z,Z,Z,Z,Z,Z,T1⟩ Z) λ_ H=>zA (vb true)<|RM ?_) λa=>?_
 cases a;exact zH<|zL<|zG<|uI (v1:=vb true) Z Z (yO vU nT Z (Hbc H 0 Z)) Z ⟨Z,H.U []⟩;refine SR<|fG a λj a=>zA (vb j)<|RM<|WJ a (λa=>SR<|zK (yX (cs:=[vb true,vb false,vb false,vb true,vb true,i6 0,i6 0]) (aVh _ _ _))<|xu (zZ (vs:=[vb true,vb false,vb false,vb true,vb true,i6 0,i6 0]) H 0 Z nT Z Z Z ⟨Z,Z,Z,Z,Z,Z,Z,T1⟩ Z) λN H=>zA (vb true)<|RM ?_) λa=>?_;cases a;exact zH<|zL<|zG<|uI (v1:=vb true) Z Z (yO vU nT Z (Hbc H 0 Z)) Z ⟨Z,H.U []⟩;refine bE a λk a l=>sJ H [18,19,20] [(18,vb k)] ?_ ?_;refine SR<|fG a λo a=>zA (vb o)<|RM<|WJ a ?_ ?_<;>intro a;cases a;exact js<|mt () (H.U [0]);refine zD<|fG a λp a=>zA (vb p) ?_;cases a;exact jn<|mt () (H.U [0]);rintro _ ρ P H;have a:=l;refine WJ a (λa=>SR<|zK (yX (cs:=[vb true,vb false,vb false,vb false,vb false,i6 0,i6 0]) (bt254_0 _))<|xu (zZ (vs:=[vb true,vb false,vb false,vb false,vb false,i6 0,i6 0]) H 0 Z nT Z Z Z ⟨Z,Z,Z,Z,Z,Z,Z,T1⟩ Z) λQ H=>zA (vb true)<|RM ?_) λa=>?_;cases a;exact zH<|zL<|zG<|uI (v1:=vb true) Z Z (yO vU nT Z (Hbc H 0 Z)) Z ⟨Z,H.U []⟩;refine bE a λq a s=>sJ H [22,23,24] [(22,vb q)] ?_ ?_;refine SR<|fG a λt a=>zA (vb t)<|RM<|WJ a ?_ ?_<;>intro a;cases a;exact js<|mt () (H.U [0]);refine zD<|fG a λu a=>zA (vb u) ?_;cases a;exact jn<|mt () (H.U [0]);rintro _ ρ _ H;have a:=s;refine WJ a (λa=>SR<|zK (yX (cs:=[vb false,vb false,vb false,vb false,vb false,i6 1,i6 1]) (aHk _ _))<|xu (zZ (vs:=[vb false,vb false,vb false,vb false,vb false,i6 1,i6 1]) H 0 Z nT Z Z Z ⟨Z,Z,Z,Z,Z,Z,Z,T1⟩ Z) λT H=>zA (vb true)<|RM ?_) λa=>?_
 cases a;exact zH<|zL<|zG<|uI (v1:=vb true) Z Z (yO vU nT Z (Hbc H 0 Z)) Z ⟨Z,H.U []⟩;refine bE a λv a x=>sJ H [26,27,28] [(26,vb v)] ?_ ?_;refine SR<|fG a λy a=>zA (vb y)<|RM<|WJ a ?_ ?_<;>intro a;cases a;exact js<|mt () (H.U [0]);refine zD<|fG a λz a=>zA (vb z) ?_;cases a;exact jn<|mt () (H.U [0]);rintro _ ρ U H;have a:=x;refine WJ a (λa=>SR<|zK (yX (cs:=[vb false,vb false,vb false,vb false,vb false,i6 2,i6 200]) (aHk _ _))<|xu (zZ (vs:=[vb false,vb false,vb false,vb false,vb false,i6 2,i6 200]) H 0 Z nT Z Z Z ⟨Z,Z,Z,Z,Z,Z,Z,T1⟩ Z) λV H=>zA (vb true)<|RM ?_) λa=>?_;cases a;exact zH<|zL<|zG<|uI (v1:=vb true) Z Z (yO vU nT Z (Hbc H 0 Z)) Z ⟨Z,H.U []⟩;refine bE a λA a B=>sJ H [30,31,32] [(30,vb A)] ?_ ?_;refine SR<|fG a λC a=>zA (vb C)<|RM<|WJ a ?_ ?_<;>intro a;cases a;exact js<|mt () (H.U [0]);refine zD<|fG a λD a=>zA (vb D) ?_;cases a;exact jn<|mt () (H.U [0]);rintro _ ρ X H;have a:=B;refine WJ a (λa=>SR<|zK (yX (cs:=[vb false,vb false,vb false,vb false,vb true,i6 1,i6 1]) (aWb _ _ _))<|xu (zZ (vs:=[vb false,vb false,vb false,vb false,vb true,i6 1,i6 1]) H 0 Z nT Z Z Z ⟨Z,Z,Z,Z,Z,Z,Z,T1⟩ Z) λY H=>zA (vb true)<|RM ?_) λa=>?_;cases a;exact zH<|zL<|zG<|uI (v1:=vb true) Z Z (yO vU nT Z (Hbc H 0 Z)) Z ⟨Z,H.U []⟩;refine SR<|fG a λE a=>zA (vb E)<|RM<|WJ a ?_ ?_<;>intro a
 refine SR<|zK (yX (cs:=[vb false,vb false,vb false,vb true,vb true,i6 1,i6 1]) (aNr _ _ _ _))<|xu (zZ (vs:=[vb false,vb false,vb false,vb true,vb true,i6 1,i6 1]) H 0 Z nT Z Z Z ⟨Z,Z,Z,Z,Z,Z,Z,T1⟩ Z) λ_ H=>zA (vb true)<|RM ?_;cases a;exact zH<|zL<|zG<|uI (v1:=vb true) Z Z (yO vU nT Z (Hbc H 0 Z)) Z ⟨Z,H.U []⟩;refine SR<|fG a λF a=>zA (vb F)<|RM<|WJ a (λa=>SR<|zK (yX (cs:=[vb false,vb false,vb false,vb false,vb false,i6 2,i6 2]) (aHk _ _))<|xu (zZ (vs:=[vb false,vb false,vb false,vb false,vb false,i6 2,i6 2]) H 0 Z nT Z Z Z ⟨Z,Z,Z,Z,Z,Z,Z,T1⟩ Z) λ_ H=>zA (vb true)<|RM ?_) λa=>?_;cases a;exact zH<|zL<|zG<|uI (v1:=vb true) Z Z (yO vU nT Z (Hbc H 0 Z)) Z ⟨Z,H.U []⟩;refine yF<|zO<|zF<|KN<|SR<|zK (yX (cs:=[vb false,vb false,vb false,vb false,vb false,i6 0,i6 0]) bz254)<|xu (zZ (vs:=[vb false,vb false,vb false,vb false,vb false,i6 0,i6 0]) H 0 Z nT Z Z Z ⟨Z,Z,Z,Z,Z,Z,Z,T1⟩ Z) λ_ H=>zA (vb false)<|RM ?_;cases a;exact zH<|uI (v1:=vb false) Z Z (yO vU nT Z (Hbc H 0 Z)) Z ⟨Z,H.U []⟩
theorem Fa0w {c:Cond}{d:Value}{r:Int}(a:Fa0 c=some r)(H:Hd O w w S [dF d c.Kids]):
  Rt 138 [.agg [i6 c.Kind,sb c.Name,sb c.Other,i6 c.Op,i6 c.N,i6 c.Frames,d].toArray] (i6 r) w O S []:=by
 refine CW 140 Tryz.func138 ?_;refine SR<|xb (yU (cs:=[i6 c.Kind,sb c.Name,sb c.Other,i6 c.Op,i6 c.N,i6 c.Frames,d]) Z H) λe _ H=>zA (i6 0)<|RM<|SR<|zK (bP Z)<|Ld fC H 1 0 Z Z ?_;obtain⟨⟨b,h⟩,u,a⟩:=yD a;refine RC (fH Tryz.func169) (Faew u (H.W [] [])) H λ_ H=>zB (.tuple #[.agg [vb b.name,vb b.other,vb b.op,vb b.n,vb b.frames,i6 b.least,i6 b.most].toArray,vb h])<|zK (zM (v:= .agg [vb b.name,vb b.other,vb b.op,vb b.n,vb b.frames,i6 b.least,i6 b.most].toArray) Z Z)<|zK (zM (v:=vb h) Z Z)<|xb (yK bCl H) λf _ H=>xu (zZ (vs:=[vb b.name,vb b.other,vb b.op,vb b.n,vb b.frames,i6 b.least,i6 b.most]) H 2 Z nT Z Z Z ⟨Z,Z,Z,Z,Z,Z,Z,T1⟩ Z) λ_ H=>zA (vb h)<|RM<|SQ<|SR<|zB (vb h)<|bT a λ_ a=>RM<|WJ a (λa=>SR<|zA (i6 7)<|RM ?_) λa=>?_;cases a;exact zH<|zG<|p1z ⟨Z,H.U []⟩;refine WZ<|SQ<|bE a λx a y=>sJ H (rg [13,59]) [(71,vb x)] ?_ ?_;refine zD<|zK (bBk Z)<|Ld pF H 2 0 Z Z<|bT a λ_ a=>bE a λz a A=>wB 5 [16,17,18,19,20] [(20,vb z)] (λwl=>Hd O w wl S [dF d c.Kids,.blk e [i6 c.Kind,sb c.Name,sb c.Other,i6 c.Op,i6 c.N,i6 c.Frames,d] 81,.blk f [vb b.name,vb b.other,vb b.op,vb b.n,vb b.frames,i6 b.least,i6 b.most] 254]) ?_ ?_;refine RJ a (λa=>zK (kR Z)<|Ld dC H 1 1 Z Z<|RLb a (wM (s1:=c.Name) (s2:=[]) Z Z) λB a=>pt (vb B) ?_) λa=>?_;cases a;exact jn<|meet ⟨(yJ Z yV),H.U [0,1,2]⟩;refine zS<|zS<|zS<|pf (vb false) ?_;cases a;exact jn<|meet ⟨(yJ Z yV),H.U [0,1,2]⟩
 rintro ρ _ H;have a:=A;refine bE a λC a D=>wB 10 [21,22,23,24,25,26,27,28,29,30] [(30,vb C)] (λwl=>Hd O w wl S [dF d c.Kids,.blk e [i6 c.Kind,sb c.Name,sb c.Other,i6 c.Op,i6 c.N,i6 c.Frames,d] 81,.blk f [vb b.name,vb b.other,vb b.op,vb b.n,vb b.frames,i6 b.least,i6 b.most] 254]) ?_ ?_;refine RJ a (λa=>zS<|zS<|zS<|zS<|zS<|zS<|zS<|zS<|pt (vb true) ?_) λa=>?_;cases a;exact jn<|meet ⟨(yJ Z yV),H.U [0,1,2]⟩;refine zK (bAt Z)<|Ld pF H 2 1 Z Z<|bT a λ_ a=>RJ a (λa=>zK (aCn Z)<|Ld dC H 1 2 Z Z<|RLb a (wM (s1:=c.Other) (s2:=[]) Z Z) λk a=>pt (vb k)<|pf (vb k) ?_) λa=>?_;cases a;exact jn<|meet ⟨(yJ Z yV),H.U [0,1,2]⟩;refine zS<|zS<|zS<|pf (vb false)<|pf (vb false) ?_;cases a;exact jn<|meet ⟨(yJ Z yV),H.U [0,1,2]⟩;rintro ρ _ H;have a:=D;refine bE a λE a F=>wB 10 [31,32,33,34,35,36,37,38,39,40] [(40,vb E)] (λwl=>Hd O w wl S [dF d c.Kids,.blk e [i6 c.Kind,sb c.Name,sb c.Other,i6 c.Op,i6 c.N,i6 c.Frames,d] 81,.blk f [vb b.name,vb b.other,vb b.op,vb b.n,vb b.frames,i6 b.least,i6 b.most] 254]) ?_ ?_;refine RJ a (λa=>zS<|zS<|zS<|zS<|zS<|zS<|zS<|zS<|pt (vb true) ?_) λa=>?_;cases a;exact jn<|meet ⟨(yJ Z yV),H.U [0,1,2]⟩;refine zK (bCe Z)<|Ld pF H 2 2 Z Z<|bT a λ_ a=>RJ a (λa=>zK (vJ Z)<|Ld fC H 1 3 Z Z<|aS a λl a=>pt (vb l)<|pf (vb l) ?_) λa=>?_;cases a;exact jn<|meet ⟨(yJ Z yV),H.U [0,1,2]⟩;refine zS<|zS<|zS<|pf (vb false)<|pf (vb false) ?_
 cases a;exact jn<|meet ⟨(yJ Z yV),H.U [0,1,2]⟩;rintro ρ a0 H;have a:=F;refine bE a λG a I=>wB 10 [41,42,43,44,45,46,47,48,49,50] [(50,vb G)] (λwl=>Hd O w wl S [dF d c.Kids,.blk e [i6 c.Kind,sb c.Name,sb c.Other,i6 c.Op,i6 c.N,i6 c.Frames,d] 81,.blk f [vb b.name,vb b.other,vb b.op,vb b.n,vb b.frames,i6 b.least,i6 b.most] 254]) ?_ ?_;refine RJ a (λa=>zS<|zS<|zS<|zS<|zS<|zS<|zS<|zS<|pt (vb true) ?_) λa=>?_;cases a;exact jn<|meet ⟨(yJ Z yV),H.U [0,1,2]⟩;refine zK (bAy Z)<|Ld pF H 2 3 Z Z<|bT a λ_ a=>RJ a (λa=>zK (nH Z)<|Ld fC H 1 4 Z Z<|aS a λo a=>pt (vb o)<|pf (vb o) ?_) λa=>?_;cases a;exact jn<|meet ⟨(yJ Z yV),H.U [0,1,2]⟩;refine zS<|zS<|zS<|pf (vb false)<|pf (vb false) ?_;cases a;exact jn<|meet ⟨(yJ Z yV),H.U [0,1,2]⟩;rintro ρ a2 H;have a:=I;refine bE a λJ a K=>wB 10 [51,52,53,54,55,56,57,58,59,60] [(60,vb J)] (λwl=>Hd O w wl S [dF d c.Kids,.blk e [i6 c.Kind,sb c.Name,sb c.Other,i6 c.Op,i6 c.N,i6 c.Frames,d] 81,.blk f [vb b.name,vb b.other,vb b.op,vb b.n,vb b.frames,i6 b.least,i6 b.most] 254]) ?_ ?_;refine RJ a (λa=>zS<|zS<|zS<|zS<|zS<|zS<|zS<|zS<|pt (vb true) ?_) λa=>?_;cases a;exact jn<|meet ⟨(yJ Z yV),H.U [0,1,2]⟩;refine zK (bAh Z)<|Ld pF H 2 4 Z Z<|bT a λa3 a=>RJ a (λa=>zK (jT Z)<|Ld fC H 1 5 Z Z<|aS a λp a=>pt (vb p)<|pf (vb p) ?_) λa=>?_;cases a;exact jn<|meet ⟨(yJ Z yV),H.U [0,1,2]⟩;refine zS<|zS<|zS<|pf (vb false)<|pf (vb false) ?_
 cases a;exact jn<|meet ⟨(yJ Z yV),H.U [0,1,2]⟩;rintro ρ a4 H;have a:=K;refine RJ a (λa=>zS<|zS<|zS<|zS<|zS<|zS<|zS<|zS<|zS<|pt (vb true) ?_) λa=>?_;cases a;exact jn<|mt () (H.U [0,1,2]);refine zK (aB Z)<|Ld jH H 1 6 Z Z<|ln a (H.im 0 Z) u79 λa5 a=>zK (fa254_5 Z)<|Ld fC H 2 5 Z Z<|zK (fa254_6 Z)<|Ld fC H 2 6 Z Z<|bE a λ_ L a=>RC aTg (aUw L (H.W [] [])) H λ_ H=>bT a λM a=>pf (vb M) ?_;cases a;exact jn<|mt () (H.U [0,1,2]);rintro _ ρ _ H;have a:=y;refine WJ a (λa=>SR<|zA (i6 2)<|RM ?_) λa=>?_;cases a;exact zH<|zG<|p1z ⟨Z,H.U []⟩;refine WZ<|SQ<|zJ<|bE a λP a Q=>sJ H (rg [72,19]) [(72,vb P)] ?_ ?_;refine zD<|zK (bBk Z)<|Ld pF H 2 0 Z Z<|bE a λR a T=>wB 6 [75,76,77,78,79,80] [(80,vb R)] (λwl=>Hd O w wl S [dF d c.Kids,.blk e [i6 c.Kind,sb c.Name,sb c.Other,i6 c.Op,i6 c.N,i6 c.Frames,d] 81,.blk f [vb b.name,vb b.other,vb b.op,vb b.n,vb b.frames,i6 b.least,i6 b.most] 254]) ?_ ?_;refine RJ a (λa=>zK (kR Z)<|Ld dC H 1 1 Z Z<|bE a λa9 U a=>RC en61 (Favw U (H.W [] [])) H λ_ H=>bT a λV a=>pt (vb V) ?_) λa=>?_;cases a;exact jn<|meet ⟨(yJ Z yV),H.U [0,1,2]⟩;refine zS<|zS<|zS<|zS<|pf (vb false) ?_;cases a;exact jn<|meet ⟨(yJ Z yV),H.U [0,1,2]⟩;rintro ρ _ H;have a:=T;refine RJ a (λa=>zS<|zS<|zS<|zS<|zS<|zS<|zS<|zS<|pt (vb true)<|zA (vb true) ?_) λa=>?_;cases a;exact jn<|mt () (H.U [0,1,2])
 refine zK (bAt Z)<|Ld pF H 2 1 Z Z<|RJ a (λa=>zK (aCn Z)<|Ld dC H 1 2 Z Z<|bE a λ_ X a=>RC en61 (Favw X (H.W [] [])) H λ_ H=>bT a λi a=>pt (vb i)<|pf (vb i)<|zA (vb i) ?_) λa=>?_;cases a;exact jn<|mt () (H.U [0,1,2]);refine zS<|zS<|zS<|zS<|pf (vb false)<|pf (vb false)<|zA (vb false) ?_;cases a;exact jn<|mt () (H.U [0,1,2]);rintro _ ρ _ H;have a:=Q;refine WJ a (λa=>SR<|zA (i6 8)<|RM ?_) λa=>?_;cases a;exact zH<|zL<|zG<|p1z ⟨Z,H.U []⟩;refine bE a λY a aa=>sJ H (rg [91,9]) [(91,vb Y)] ?_ ?_;refine zD<|zK (bCe Z)<|Ld pF H 2 2 Z Z<|RJ a (λa=>zK (vJ Z)<|Ld fC H 1 3 Z Z<|bE a λbf ab a=>RC aTg (aUw ab (H.W [] [])) H λ_ H=>bT a λq a=>pt (vb q)<|zA (vb q) ?_) λa=>?_;cases a;exact jn<|mt () (H.U [0,1,2]);refine zS<|zS<|zS<|zS<|pf (vb false)<|zA (vb false) ?_;cases a;exact jn<|mt () (H.U [0,1,2]);rintro _ ρ _ H;have a:=aa;refine WJ a (λa=>SR<|zA (i6 7)<|RM ?_) λa=>?_;cases a;exact zH<|zL<|zG<|p1z ⟨Z,H.U []⟩;refine bE a λac a ad=>sJ H (rg [100,9]) [(100,vb ac)] ?_ ?_;refine zD<|zK (bAh Z)<|Ld pF H 2 4 Z Z<|RJ a (λa=>zK (jT Z)<|Ld fC H 1 5 Z Z<|bE a λ_ ae a=>RC aTg (aUw ae (H.W [] [])) H λ_ H=>bT a λs a=>pt (vb s)<|zA (vb s) ?_) λa=>?_;cases a;exact jn<|mt () (H.U [0,1,2]);refine zS<|zS<|zS<|zS<|pf (vb false)<|zA (vb false) ?_;cases a;exact jn<|mt () (H.U [0,1,2])
 rintro _ ρ _ H;have a:=ad;refine WJ a (λa=>SR<|zA (i6 9)<|RM ?_) λa=>?_;cases a;exact zH<|zL<|zG<|p1z ⟨Z,H.U []⟩;refine bE a λaf a ag=>sJ H (rg [109,12]) [(109,vb af)] ?_ ?_;refine zD<|zK (bP Z)<|Ld fC H 1 0 Z Z<|fG a λ_ a=>RJ a (λa=>zK (nH Z)<|Ld fC H 1 4 Z Z<|zK (jT Z)<|Ld fC H 1 5 Z Z<|bE a λ_ ah a=>RC aTg (aUw ah (H.W [] [])) H λ_ H=>bT a λt a=>pt (vb t)<|zA (vb t) ?_) λa=>?_;cases a;exact jn<|mt () (H.U [0,1,2]);refine zS<|zS<|zS<|zS<|zS<|zS<|pf (vb false)<|zA (vb false) ?_;cases a;exact jn<|mt () (H.U [0,1,2]);rintro _ ρ _ H;have a:=ag;refine WJ a (λa=>SR<|zA (i6 9)<|RM ?_) λa=>?_;cases a;exact zH<|zL<|zG<|p1z ⟨Z,H.U []⟩;refine bE a λai a aj=>jo H (rg [121,19]) (λ(g:Unit)=>[(121,vb ai)]) (λg=>[]) [] ?_ ?_;refine zD<|zK (bAy Z)<|Ld pF H 2 3 Z Z<|bE a λak a al=>wB 6 [124,125,126,127,128,129] [(129,vb ak)] (λwl=>Hd O w wl S [dF d c.Kids,.blk e [i6 c.Kind,sb c.Name,sb c.Other,i6 c.Op,i6 c.N,i6 c.Frames,d] 81,.blk f [vb b.name,vb b.other,vb b.op,vb b.n,vb b.frames,i6 b.least,i6 b.most] 254]) ?_ ?_;refine RJ a (λa=>zK (nH Z)<|Ld fC H 1 4 Z Z<|bE a λ_ am a=>RC aTg (aUw am (H.W [] [])) H λ_ H=>bT a λan a=>pt (vb an) ?_) λa=>?_;cases a;exact jn<|meet ⟨(yJ Z yV),H.U [0,1,2]⟩;refine zS<|zS<|zS<|zS<|pf (vb false) ?_;cases a;exact jn<|meet ⟨(yJ Z yV),H.U [0,1,2]⟩;rintro ρ _ H
 have a:=al;refine RJ a (λa=>zS<|zS<|zS<|zS<|zS<|zS<|zS<|zS<|pt (vb true)<|zA (vb true) ?_) λa=>?_;cases a;exact jn<|mt () (H.U []);refine zK (bP Z)<|Ld fC H 1 0 Z Z<|fG a λ_ a=>RJ a (λa=>zK (nH Z)<|Ld fC H 1 4 Z Z<|eG a λj a=>pt (vb j)<|pf (vb j)<|zA (vb j) ?_) λa=>?_;cases a;exact jn<|mt () (H.U []);refine zS<|zS<|zS<|pf (vb false)<|pf (vb false)<|zA (vb false) ?_;cases a;exact jn<|mt () (H.U []);rintro _ ρ _ H;have a:=aj;refine WJ a (λa=>SR<|zA (i6 9)<|RM ?_) λa=>?_;cases a;exact zH<|zL<|zG<|p1z ⟨Z,H.U []⟩;refine yF<|zO<|zF<|KN<|SR<|zA (i6 0)<|RM ?_;cases a;exact zH<|p1z ⟨Z,H.U []⟩
abbrev Fgx (f:Cond->Option Int):Prop:= ∀(p0:Cond) (v1:Value) (r:Int) (_:f p0=some r) (O S:List Nat) (w:World) (_:Hd O w w S [dF v1 p0.Kids]),
  Cl 101 [.agg [i6 p0.Kind,sb p0.Name,sb p0.Other,i6 p0.Op,i6 p0.N,i6 p0.Frames,v1].toArray,.func (.func 138) #[] #[]] w λe w'=>e= .returned (i6 r)/\Hd O w w' S []
theorem Fdnw (rfD:Cond->Option Int)(rhD:Fgx rfD)(b:Cond)(i:Value)(r:Int)(a:Fdn rfD b=some r)(O S:List Nat)(w:World)(H:Hd O w w S [dF i b.Kids]):
  Cl 101 [.agg [i6 b.Kind,sb b.Name,sb b.Other,i6 b.Op,i6 b.N,i6 b.Frames,i].toArray,.func (.func 138) #[] #[]] w λe k=>e= .returned (i6 r)/\Hd O w k S []:=by
 unfold Fdn at a;refine CW 29 Tryz.func101 ?_;refine SR<|xb (yU (cs:=[i6 b.Kind,sb b.Name,sb b.Other,i6 b.Op,i6 b.N,i6 b.Frames,i]) Z H) λE F H=>zA (i6 0)<|RM<|SQ<|SR<|zB (.func (.func 138) #[] #[])<|lb H 1 Z eQ eP ?_;have l:=H;refine bE a λd n a=>xK Z Z (jV (fH Tryz.func138) Z Z) (Fa0w n (H.W [] [0])) ?_;rintro _ _ ⟨rfl,o⟩;have H:=l.step (o.only:Only [] _ _);refine⟨_,Z,?_⟩;refine zA (i6 d)<|RM<|SR<|zB (i6 d)<|aS a λ_ a=>RM<|WJ a (λa=>SR<|zB (i6 d)<|zA (i6 d)<|RM ?_) λa=>?_;cases a;exact zH<|zG<|p1z ⟨Z,H.U []⟩;refine WZ<|jk a H (rg [4,1,7,2,15,14]) (λx (y:Unit)=>[]) (λx y=>[]) [] (λ_ a=>?_) ?_;refine SR<|zK (aB Z)<|Ld jH H 1 6 Z Z<|ln a (H.im 0 Z) u79 λ_ a=>zB (i6 0)<|RM<|zJ ?_;unfold Fh2 at a;refine lo a H (rg [4,1,7,2,18,11]) (λx (y:Unit)=>[(18,i6 x)]) (λx y=>[]) [0] () (H.U [0]) ?_;clear H a;rintro _ p _ ρ _ H a;have H:=un1 H;refine SR<|eG a λP a=>RM<|SQ<|WJ a (λa=>WZ<|SQ<|zJ<|SR<|bE a λc j a=>?_) λa=>?_;obtain⟨q,s,Q,_,t,u,v,z,A⟩:=xH (H.im 0 Z) j;obtain⟨f,rfl,B⟩:=xY u;have H:=H.fzs [.at q (s+p.toNat*7) _,.sl dB f c.Kids] ⟨⟨v,z,A⟩,B,T1⟩;refine ix u79 eP t j<|zK (yS (yC (cs:=[i6 c.Kind,sb c.Name,sb c.Other,i6 c.Op,i6 c.N,i6 c.Frames,f]) eQ Z eP Z (H.im 1 Z).2.2) Z)<|xb (yK nD H) λT U H=>xu (zZ (vs:=[i6 c.Kind,sb c.Name,sb c.Other,i6 c.Op,i6 c.N,i6 c.Frames,f]) H 3 Z eP Z Z Z ⟨Z,Z,Z,Z,Z,Z,(xM (H.im 2 Z)),T1⟩ Z) λV H=>RM<|SR<|lb H 3 Z eQ eP<|zB (.func (.func 138) #[] #[])<|bE a λh C a=>RC aIo (rhD c f _ C _ _ _ (H.W [] [2])) H λX H=>zA (i6 h)<|RM<|SR<|zB (i6 h)<|aS a λY a=>RM<|WJ a ?_ ?_<;>intro a
 refine SR<|zB (i6 h)<|zA (i6 h)<|RM ?_;cases a;exact zH<|zL<|zG<|zG<|zL<|zG<|p1z ⟨Z,H.U []⟩;exact yF<|zO<|zF<|KN<|zD<|eH a λD a=>zB (i6 D)<|jn<|me a () (H.U [0]);exact yA<|zT<|zT<|zW<|zF<|me a () (H.U []);rintro _ _ ρ _ H a;refine SR<|zA (i6 0)<|RM ?_;cases a;exact zH<|p1z ⟨Z,H.U []⟩
theorem Fjw:Fgx (Ffn):=by
 have h: ∀n,Fgx (Fbu n):=by
  intro n
  induction n with
  |zero=>intro b c r a;cases a
  |succ n ih=>intro b c r a;exact Fdnw (Fbu n) ih b c r a
 exact h FU
theorem Fdiw {a:Cond}{c:Value}{r:Int}(b:Fdi a=some r)(H:Hd O w w S [dF c a.Kids]):
  Rt 100 [.agg [i6 a.Kind,sb a.Name,sb a.Other,i6 a.Op,i6 a.N,i6 a.Frames,c].toArray] (i6 r) w O S []:=by
 refine CW 9 Tryz.func100 ?_;refine SR<|xb (yU (cs:=[i6 a.Kind,sb a.Name,sb a.Other,i6 a.Op,i6 a.N,i6 a.Frames,c]) Z H) λj k H=>zA (i6 0)<|RM<|SR<|xb (yK zero3 H) λd l H=>xu (yH H 2 Z sz3 Z (v:=i6 0) Z Z Z) λn H=>RM<|SQ<|SR<|lb H 1 Z eQ eP ?_;obtain⟨⟨o,p⟩,e,b⟩:=yD b;refine cAz en137 (Fkd a 20 0 c d _ e _ _ _ (H.W [2] [0])) λq f=>?_;have H:=un3<|H.back [2] [0] Z f;refine bT b λs b=>RM<|WJ b (λb=>SR<|zA (i6 3)<|RM ?_) λb=>?_;cases b;exact zH<|zG<|p1z ⟨Z,H.U []⟩;refine WZ<|SR<|lb H 1 Z eQ eP<|bE b λh i b=>RC aIo (Fjw a c _ i _ _ _ (H.W [] [0])) H λt H=>zA (i6 h)<|RM ?_;cases b;exact zH<|p1z ⟨Z,H.U []⟩
theorem Ffkw {b:Cond}{c:Value}{r:Int}(a:Ffk b=some r)(H:Hd O w w S [dF c b.Kids]):
  Rt 102 [.agg [i6 b.Kind,sb b.Name,sb b.Other,i6 b.Op,i6 b.N,i6 b.Frames,c].toArray] (i6 r) w O S []:=by
 refine CW 11 Tryz.func102 ?_;refine SR<|xb (yU (cs:=[i6 b.Kind,sb b.Name,sb b.Other,i6 b.Op,i6 b.N,i6 b.Frames,c]) Z H) λh i H=>zA (i6 0)<|RM<|SQ<|bE a λd a e=>jo H (rg [3,8]) (λ(g:Unit)=>[(10,vb d)]) (λg=>[]) [] ?_ ?_;refine zD<|zK (bP Z)<|Ld fC H 1 0 Z Z<|fG a λj a=>RJ a (λa=>zS<|zS<|zS<|pt (vb true) ?_) λa=>?_;cases a;exact jn<|mt () (H.U []);refine zK (bP Z)<|Ld fC H 1 0 Z Z<|fG a λf a=>pf (vb f) ?_;cases a;exact jn<|mt () (H.U []);rintro _ ρ k H;have a:=e;refine WJ a (λa=>SR<|zA (i6 2)<|RM ?_) λa=>?_;cases a;exact zH<|zG<|p1z ⟨Z,H.U []⟩;refine WZ<|SR<|zA (i6 0)<|RM ?_;cases a;exact zH<|p1z ⟨Z,H.U []⟩
abbrev Fhe (f:Cond->Option Int):Prop:= ∀(p0:Cond) (v1:Value) (r:Int) (_:f p0=some r) (O S:List Nat) (w:World) (_:Hd O w w S [dF v1 p0.Kids]),
  Cl 101 [.agg [i6 p0.Kind,sb p0.Name,sb p0.Other,i6 p0.Op,i6 p0.N,i6 p0.Frames,v1].toArray,.func (.func 102) #[] #[]] w λe w'=>e= .returned (i6 r)/\Hd O w w' S []
theorem Fdgw (rfE:Cond->Option Int)(rhE:Fhe rfE)(b:Cond)(i:Value)(r:Int)(a:Fdg rfE b=some r)(O S:List Nat)(w:World)(H:Hd O w w S [dF i b.Kids]):
  Cl 101 [.agg [i6 b.Kind,sb b.Name,sb b.Other,i6 b.Op,i6 b.N,i6 b.Frames,i].toArray,.func (.func 102) #[] #[]] w λe k=>e= .returned (i6 r)/\Hd O w k S []:=by
 unfold Fdg at a;refine CW 29 Tryz.func101 ?_;refine SR<|xb (yU (cs:=[i6 b.Kind,sb b.Name,sb b.Other,i6 b.Op,i6 b.N,i6 b.Frames,i]) Z H) λE F H=>zA (i6 0)<|RM<|SQ<|SR<|zB (.func (.func 102) #[] #[])<|lb H 1 Z eQ eP ?_;have l:=H;refine bE a λd n a=>xK Z Z (jV (fH Tryz.func102) Z Z) (Ffkw n (H.W [] [0])) ?_;rintro _ _ ⟨rfl,o⟩;have H:=l.step (o.only:Only [] _ _);refine⟨_,Z,?_⟩;refine zA (i6 d)<|RM<|SR<|zB (i6 d)<|aS a λ_ a=>RM<|WJ a (λa=>SR<|zB (i6 d)<|zA (i6 d)<|RM ?_) λa=>?_;cases a;exact zH<|zG<|p1z ⟨Z,H.U []⟩;refine WZ<|jk a H (rg [4,1,7,2,15,14]) (λx (y:Unit)=>[]) (λx y=>[]) [] (λ_ a=>?_) ?_;refine SR<|zK (aB Z)<|Ld jH H 1 6 Z Z<|ln a (H.im 0 Z) u79 λ_ a=>zB (i6 0)<|RM<|zJ ?_;unfold Fh3 at a;refine lo a H (rg [4,1,7,2,18,11]) (λx (y:Unit)=>[(18,i6 x)]) (λx y=>[]) [0] () (H.U [0]) ?_;clear H a;rintro _ p _ ρ _ H a;have H:=un1 H;refine SR<|eG a λP a=>RM<|SQ<|WJ a (λa=>WZ<|SQ<|zJ<|SR<|bE a λc j a=>?_) λa=>?_;obtain⟨q,s,Q,_,t,u,v,z,A⟩:=xH (H.im 0 Z) j;obtain⟨f,rfl,B⟩:=xY u;have H:=H.fzs [.at q (s+p.toNat*7) _,.sl dB f c.Kids] ⟨⟨v,z,A⟩,B,T1⟩;refine ix u79 eP t j<|zK (yS (yC (cs:=[i6 c.Kind,sb c.Name,sb c.Other,i6 c.Op,i6 c.N,i6 c.Frames,f]) eQ Z eP Z (H.im 1 Z).2.2) Z)<|xb (yK nD H) λT U H=>xu (zZ (vs:=[i6 c.Kind,sb c.Name,sb c.Other,i6 c.Op,i6 c.N,i6 c.Frames,f]) H 3 Z eP Z Z Z ⟨Z,Z,Z,Z,Z,Z,(xM (H.im 2 Z)),T1⟩ Z) λV H=>RM<|SR<|lb H 3 Z eQ eP<|zB (.func (.func 102) #[] #[])<|bE a λh C a=>RC aIo (rhE c f _ C _ _ _ (H.W [] [2])) H λX H=>zA (i6 h)<|RM<|SR<|zB (i6 h)<|aS a λY a=>RM<|WJ a ?_ ?_<;>intro a
 refine SR<|zB (i6 h)<|zA (i6 h)<|RM ?_;cases a;exact zH<|zL<|zG<|zG<|zL<|zG<|p1z ⟨Z,H.U []⟩;exact yF<|zO<|zF<|KN<|zD<|eH a λD a=>zB (i6 D)<|jn<|me a () (H.U [0]);exact yA<|zT<|zT<|zW<|zF<|me a () (H.U []);rintro _ _ ρ _ H a;refine SR<|zA (i6 0)<|RM ?_;cases a;exact zH<|p1z ⟨Z,H.U []⟩
theorem Fj0:Fhe (Ffx):=by
 have h: ∀n,Fhe (Fbx n):=by
  intro n
  induction n with
  |zero=>intro b c r a;cases a
  |succ n ih=>intro b c r a;exact Fdgw (Fbx n) ih b c r a
 exact h FU
theorem Feww {d:Rules}{b:dI}{f h j c:Value}{r:Int}(a:Few d b=some r)(H:Hd O w w S [fZ f d.Phases,aI h d.Moves,bY j d.Rules,dF c b.When.Kids]):
  Rt 63 [.agg [f,h,j].toArray,.agg [sb b.From,sb b.To,i6 b.When.Kind,sb b.When.Name,sb b.When.Other,i6 b.When.Op,i6 b.When.N,i6 b.When.Frames,c].toArray] (i6 r) w O S []:=by
 refine CW 33 Tryz.func63 ?_;refine SR<|xb (yU (cs:=[f,h,j]) Z H) λC D H=>xb (yU (cs:=[sb b.From,sb b.To,i6 b.When.Kind,sb b.When.Name,sb b.When.Other,i6 b.When.Op,i6 b.When.N,i6 b.When.Frames,c]) Z H) λE F H=>zA (i6 0)<|RM<|jk a H (rg [4,1,6,1,8,16]) (λx (y:Unit)=>[]) (λx y=>[]) [3,5] (λ_ a=>?_) ?_;refine SR<|zK (aSo Z)<|Ld dC H 5 0 Z Z<|zK (aQn Z)<|Ld dC H 5 1 Z Z<|lE a λ_ n a=>?_;subst n;refine xv (kl aMh [b.From,b.To] u22 el9 H) λ_ _ H=>?_;obtain⟨_,_,o⟩:=Sr.len (Sr.xU (H.im 6 Z));refine RLi a (kF u22 o) λP a=>zB (i6 0)<|RM<|zJ<|lo a H (rg [4,1,6,1,14,10]) (λx (y:Unit)=>[(14,i6 x)]) (λx y=>[]) (rg [0,7]) () (H.U (rg [0,7])) ?_;clear H a;rintro Q _ _ ρ T H a;have H:=un7 H;refine SR<|eG a λU a=>RM<|SQ<|WJ a (λa=>WZ<|SQ<|zJ<|SR<|bE a λk l a=>?_) λa=>?_;obtain⟨V,X,p,q,s,t⟩:=jB (H.im 6 Z) l;obtain rfl:p=[sb k]:=s;refine ix u22 sz9 q l<|zK (yB dC Z (Cells.get t (i:=0) Z))<|zA (sb k)<|RM<|SR<|zK (aP Z)<|Ld aC H 4 0 Z Z<|zB (sb k)<|bE a λY u a=>RC en62 (Fbow u (H.W [] [0])) H λ_ H=>bT a λ_ a=>RM<|WJ a (λa=>SR<|zA (i6 4)<|RM ?_) λa=>?_;cases a;exact zH<|zL<|zG<|zG<|zL<|zG<|p1z ⟨Z,H.U []⟩;exact yF<|zO<|zF<|KN<|zD<|eH a λv a=>zB (i6 v)<|jn<|me a () (H.U (rg [0,7]));exact yA<|zT<|zT<|zW<|zF<|me a () (H.U [3,5]);rintro _ _ ρ _ H a;have H:=un2 H;refine SQ<|SR<|zK (aBo Z)<|zK (yS (yC (cs:=[i6 b.When.Kind,sb b.When.Name,sb b.When.Other,i6 b.When.Op,i6 b.When.N,i6 b.When.Frames,c]) eQ Z eP Z (Cells.drop (Hbc H 1 Z) 2 7)) Z)<|bE a λe z a=>RC en100 (Fdiw z (H.W [] [0])) H λ_ H=>zA (i6 e)<|RM<|SR<|zB (i6 e)<|aS a λ_ a=>RM<|WJ a ?_ ?_<;>intro a
 refine SR<|zB (i6 e)<|zA (i6 e)<|RM ?_;cases a;exact zH<|zG<|p1z ⟨Z,H.U []⟩;refine WZ<|SR<|zK (aBo Z)<|zK (yS (yC (cs:=[i6 b.When.Kind,sb b.When.Name,sb b.When.Other,i6 b.When.Op,i6 b.When.N,i6 b.When.Frames,c]) eQ Z eP Z (Cells.drop (Hbc H 1 Z) 2 7)) Z)<|bE a λA B a=>RC aIo (Fj0 b.When c _ B _ _ _ (H.W [] [0])) H λaf H=>zA (i6 A)<|RM ?_;cases a;exact zH<|p1z ⟨Z,H.U []⟩
theorem Fgjw {a:dA}{b:Str}{c:Value}{d:Nat}{r:Bool}(e:Fgj a b=some r)(H:Hd O w w S [.blk d [sb b] 9,dF c a.When.Kids]):
  Rt 105 [.agg [sb a.Name,i6 a.When.Kind,sb a.When.Name,sb a.When.Other,i6 a.When.Op,i6 a.When.N,i6 a.When.Frames,c].toArray,gW d] (vb r) w O S [.blk d [sb b] 9]:=by
 refine CW 8 Tryz.func105 ?_;refine SR<|xb (yU (cs:=[sb a.Name,i6 a.When.Kind,sb a.When.Name,sb a.When.Other,i6 a.When.Op,i6 a.When.N,i6 a.When.Frames,c]) Z H) λh i H=>zA (vb false)<|RM<|SR<|zK (wG Z)<|Ld dC H 2 0 Z Z<|Ld dC H 0 0 Z Z<|RLb e (xJ (s1:=a.Name) (s2:=b) Z Z) λf e=>zA (vb f)<|RM ?_;cases e;exact zH<|p1z ⟨Z,H.U [0]⟩
theorem Ff8w {f:List dA}{p1c0:Str}{d:Value}{e:Nat}{r:Int}(a:Ff8 f p1c0=some r)(H:Hd O w w S [.blk e [sb p1c0] 9,bY d f]):
  Rt 139 [d,.func (.func 105) #[] #[gW e]] (i6 r) w O S [.blk e [sb p1c0] 9]:=by
 refine CW 19 Tryz.func139 ?_;refine SR<|zA (i6 0)<|RM<|jk a H (rg [4,15]) (λx (y:Unit)=>[]) (λx y=>[]) [0] (λz a=>?_) ?_;refine SR<|zB d<|ln a (H.im 1 Z) u24 λA a=>zB (i6 0)<|RM<|zJ<|lo a H (rg [4,2,8,11]) (λx (y:Unit)=>[(8,i6 x)]) (λx y=>[]) [0,1] () (H.U [0,1]) ?_;clear H a;rintro B c _ ρ C H a;have H:=un2 H;refine SR<|eG a λD a=>RM<|SQ<|WJ a (λa=>WZ<|SQ<|zJ<|SR<|zB (i6 c)<|zA (i6 c)<|RM<|SR<|zB (.func (.func 105) #[] #[gW e])<|zB d<|zB (i6 c)<|bE a λb h a=>?_) λa=>?_;obtain⟨j,k,E,F,l,n,o,p,q⟩:=xH (H.im 1 Z) h;obtain⟨i,rfl,s⟩:=bZ n;have H:=H.fzs [.at j (k+c.toNat*8) _,.sl dB i b.When.Kids] ⟨⟨o,p,q⟩,s,T1⟩;refine ix u24 mG l h<|zK (yS (yC (cs:=[sb b.Name,i6 b.When.Kind,sb b.When.Name,sb b.When.Other,i6 b.When.Op,i6 b.When.N,i6 b.When.Frames,i]) aHo Z mG Z (H.im 2 Z).2.2) Z)<|bE a λ_ t a=>xK Z Z (jV (fH Tryz.func105) Z Z) (Fgjw t (H.W [0] [3])) ?_;rintro _ _ ⟨rfl,u⟩;have H:=un4<|H.back [0] [3] Z u;refine⟨_,Z,?_⟩;refine RM<|WJ a (λa=>SR<|zB (i6 c)<|zA (i6 c)<|RM ?_) λa=>?_;cases a;exact zH<|zL<|zG<|zG<|zL<|zG<|p1z ⟨Z,H.U [3]⟩;exact yF<|zO<|zF<|KN<|zD<|eH a λv a=>zB (i6 v)<|jn<|me a () (H.U [3,0]);exact yA<|zT<|zT<|zW<|zF<|me a () (H.U [0]);rintro _ _ ρ _ H a;have H:=un1 H;refine SR<|zA (i6 (-1))<|RM ?_;cases a;exact zH<|p1z ⟨Z,H.U [0]⟩
theorem Fg4w {d:List dA}{p1c0:Str}{c:Value}{b:Nat}{r:Bool}(a:Fg4 d p1c0=some r)(H:Hd O w w S [.blk b [sb p1c0] 9,bY c d]):
  Rt 104 [c,.func (.func 105) #[] #[gW b]] (vb r) w O S [.blk b [sb p1c0] 9]:=by
 refine CW 9 Tryz.func104 ?_;refine SR<|zA (vb false)<|RM<|SR<|zB c<|zB (.func (.func 105) #[] #[gW b])<|bE a λi e a=>cAz (fH Tryz.func139) (Ff8w e (H.W [0] [1])) λj f=>?_;have H:=un2<|H.back [0] [1] Z f;refine aBz a λh a=>zA (vb h)<|RM ?_;cases a;exact zH<|p1z ⟨Z,H.U [1]⟩
theorem Fcow {j:Str}{b:Rules}{c:Int}{d e:Nat}{f h i:Value}{r:Bool}(a:Fco j b c=some r)(H:Hd O w w S [.blk d [f,h,i] 26,.blk e [i6 c] 3,fZ f b.Phases,aI h b.Moves,bY i b.Rules]):
  Rt 103 [sb j,gW d,gW e] (vb r) w O S [.blk d [f,h,i] 26,.blk e [i6 c] 3]:=by
 refine CW 11 Tryz.func103 ?_;refine SR<|xb (aDl Z Z H) λt u H=>zA (vb false)<|RM<|SR<|zK (kM Z)<|Ld pJ H 0 2 Z Z<|Ld fC H 1 0 Z Z<|bE a λk l a=>aEk Z Z (vF u24 mG (H.im 4 Z) Z Z l) ?_;rintro n o;have H:=H.fz (.sl eY n k) o;refine zK (aO Z)<|bE a λp q a=>cAz (fH Tryz.func104) (Fg4w q (H.W [5] [6])) λv s=>?_;have H:=un7<|H.back [5] [6] Z s;refine zA (vb p)<|RM ?_;cases a;exact zH<|p1z ⟨Z,H.U [0,1]⟩
theorem Fehw (b:Cond)(c:Rules)(c1f1:Int)(f:Value)(d:Nat)(h i j:Value)(k e:Nat)(r:Int)(a:Feh b c c1f1=some r)(H:Hd O w w S [.blk d [h,i,j] 26,.blk e [i6 c1f1] 3,.blk k [.func (.func 103) #[] #[gW d,gW e]] 164,dF f b.Kids,fZ h c.Phases,aI i c.Moves,bY j c.Rules]):
  Rt 106 [.agg [i6 b.Kind,sb b.Name,sb b.Other,i6 b.Op,i6 b.N,i6 b.Frames,f].toArray,gW d,gW k] (i6 r) w O S [.blk d [h,i,j] 26,.blk e [i6 c1f1] 3,.blk k [.func (.func 103) #[] #[gW d,gW e]] 164]:=by
 refine CW 28 Tryz.func106 ?_;refine SR<|xb (yU (cs:=[i6 b.Kind,sb b.Name,sb b.Other,i6 b.Op,i6 b.N,i6 b.Frames,f]) Z H) λn y H=>zA (i6 0)<|RM<|SQ<|bE a λo a p=>jo H (rg [5,23]) (λ(g:Unit)=>[(27,vb o)]) (λg=>[]) [0,4,5,6,1,2] ?_ ?_;refine zD<|zK (bP Z)<|Ld fC H 7 0 Z Z<|fG a λz a=>bE a λq a s=>wB 8 [8,9,10,11,12,13,14,15] [(15,vb q)] (λwl=>Hd O w wl S [.blk d [h,i,j] 26,.blk e [i6 c1f1] 3,.blk k [.func (.func 103) #[] #[gW d,gW e]] 164,dF f b.Kids,fZ h c.Phases,aI i c.Moves,bY j c.Rules,.blk n [i6 b.Kind,sb b.Name,sb b.Other,i6 b.Op,i6 b.N,i6 b.Frames,f] 81]) ?_ ?_;refine RJ a (λa=>zK (aP Z)<|Ld aC H 0 0 Z Z<|zK (kR Z)<|Ld dC H 7 1 Z Z<|bE a λA t a=>RC en62 (Fbow t (H.W [] [4])) H λB H=>bT a λu a=>pt (vb u) ?_) λa=>?_;cases a;exact jn<|meet ⟨(yJ Z yV),H.U (rg [0,8])⟩;refine zS<|zS<|zS<|zS<|zS<|zS<|pf (vb false) ?_;cases a;exact jn<|meet ⟨(yJ Z yV),H.U (rg [0,8])⟩;rintro ρ C H;have a:=s;refine RJ a (λa=>zS<|zS<|zS<|zS<|zS<|zS<|zS<|zS<|zS<|zS<|pt (vb true) ?_) λa=>?_;cases a;exact jn<|mt () (H.U [0,4,5,6,1,2]);refine zK (bP Z)<|Ld fC H 7 0 Z Z<|fG a λD a=>RJ a (λa=>Ld one164 H 2 0 Z Z<|zK (kR Z)<|Ld dC H 7 1 Z Z<|bE a λE v a=>xK Z Z (jV en103 Z Z) (Fcow v (H.W [0,1] [4,5,6])) ?_) λa=>?_;rintro _ F ⟨rfl,x⟩;have H:=un8<|H.back [0,1] [4,5,6] Z x;refine⟨_,Z,?_⟩;refine bT a λl a=>pt (vb l)<|pf (vb l) ?_
 cases a;exact jn<|mt () (H.U [6,2,3,4,7,0]);refine zS<|zS<|zS<|zS<|zS<|pf (vb false)<|pf (vb false) ?_;cases a;exact jn<|mt () (H.U [0,4,5,6,1,2]);rintro _ ρ _ H;have H:=un6 H;have a:=p;refine WJ a (λa=>SR<|zA (i6 4)<|RM ?_) λa=>?_;cases a;exact zH<|zG<|p1z ⟨Z,H.U [0,4,5]⟩;refine WZ<|SR<|zA (i6 0)<|RM ?_;cases a;exact zH<|p1z ⟨Z,H.U [0,4,5]⟩
abbrev Fht (f:Cond->Rules->Int->Option Int):Prop:= ∀(p0:Cond) (p1c0:Rules) (p1c1f1:Int) (v1:Value) (b3:Nat) (v4:Value) (v5:Value) (v6:Value) (b11:Nat) (b13:Nat) (r:Int) (_:f p0 p1c0 p1c1f1=some r) (O S:List Nat) (w:World) (_:Hd O w w S [.blk b3 [v4,v5,v6] 26,.blk b13 [i6 p1c1f1] 3,.blk b11 [.func (.func 103) #[] #[gW b3,gW b13]] 164,dF v1 p0.Kids,fZ v4 p1c0.Phases,aI v5 p1c0.Moves,bY v6 p1c0.Rules]),
  Cl 101 [.agg [i6 p0.Kind,sb p0.Name,sb p0.Other,i6 p0.Op,i6 p0.N,i6 p0.Frames,v1].toArray,.func (.func 106) #[] #[gW b3,gW b11]] w λe w'=>e= .returned (i6 r)/\Hd O w w' S [.blk b3 [v4,v5,v6] 26,.blk b13 [i6 p1c1f1] 3,.blk b11 [.func (.func 103) #[] #[gW b3,gW b13]] 164]
end Go.Proofs.YtnccbhdmemheeaaGreatDoor.L
