/- Walks that the claim stands on; no condition beyond those stated. -/
import Derived.Test.YtbjofgmdhbiekaaGreatDoorUP
import Derived.Test.YtbjofgmdhbiekaaGreatDoorXVq
import Derived.Test.YtbjofgmdhbiekaaGreatDoorShK
namespace Go.Proofs.YtbjofgmdhbiekaaGreatDoor.L
open Go.RowKit Go.OB Go.Lf
set_option maxRecDepth 100000
set_option maxHeartbeats 4000000
abbrev vb:=Value.bool
theorem T1:True:=trivial
theorem Z {α:Sort _}{a:α}:a=a:=rfl
variable {O S:List Nat}{w:World}
abbrev En (f:FuncId):Prop:=Go.OB.Enters Tryz.prog f
theorem RN {P:Program}{N:Nat}{ops:Array Oper}{y:Code}{K:Env->World->Prop}{Q Q':Exit->Env->World->Prop}{ρ:Env}{w:World}(h: ∀ρ w,WP P N y Q ρ w->K ρ w)(n:WP P N y Q ρ w):RL P N ops (nV K Q') [] ρ w:=yL (zG (h _ _ n))
theorem CW {P:Program}{f:FuncId}{fn:Func}{c:Code}{args:List Value}{w:World}{R:Ending->World->Prop}(N:Nat)(hf:P.funcs[f]? =some fn)(h:WP P N c (aAb P fn.results R) (aMo args) w)(hb:fn.body=some c:=by exact rfl)(hN:fn.ntmps=N:=by exact rfl)(hl:Nat.ble args.length N=true:=by exact rfl):Calls P f args.toArray w R:=sG N hf hb hN hl h
theorem mt {W:List Nat}{ρ ρ':Env}{G:Type}{S:G->List (Nat×Value)}{B:G->Prop}(g:G)(h:B g)(hs:Sl ρ' (S g):=by repeat (first |exact yC|refine yB rfl ?_))(hf:Fr W ρ ρ':=by repeat' (first |with_reducible exact aFw|refine aQp rfl ?_|refine aJg rfl rfl ?_)):Fr W ρ ρ'/\ ∃g,Sl ρ' (S g)/\B g:=⟨hf,g,hs,h⟩
theorem ml {W:List Nat}{ρ ρ':Env}{G:Type}{S:G->List (Nat×Value)}{B C:G->Prop}{μ:G->Nat}{n:Nat}(g:G)(h:B g)(c:C g)(hs:Sl ρ' (S g):=by repeat (first |exact yC|refine yB rfl ?_))(hn:μ g<n:=by exact Nat.lt_succ_self _)(hf:Fr W ρ ρ':=by repeat' (first |with_reducible exact aFw|refine aQp rfl ?_|refine aJg rfl rfl ?_)):Fr W ρ ρ'/\ ∃g,Sl ρ' (S g)/\(B g/\C g)/\μ g<n:=⟨hf,g,hs,⟨h,c⟩,hn⟩
def rg:List Nat->List Nat
 |a::n::l=>List.range' a n++rg l
 |_=>[]
section
variable {P:Program}{N:Nat}{ops:Array Oper}{Q Q':Exit->Env->World->Prop}{rest:List Oper}{ρ:Env}{w:World}{d:Nat}{op:Op}{ty:TypeId}{pos:String}{af:Array Edge}{gd:Option (Nat×Bool)}
theorem RLb {β:Type}{b:Bool}{k:Bool->Option β}{r:β}(a:gG b k=some r)(hd:Do P ⟨some d,op,ty,pos,af,gd⟩ ρ w (vb b) w)(n: ∀x,k x=some r->RL P N ops Q rest (upd ρ d (vb x)) w)(hw:fP N ops ρ ⟨some d,op,ty,pos,af,gd⟩=true:=by exact rfl)(c:Nat.blt d N=true:=by exact rfl):RL P N ops Q (⟨some d,op,ty,pos,af,gd⟩::rest) ρ w:=aK hw c hd (n b a)
theorem RLi {β:Type}{b:Int}{kk:IntKind}{k:Int->Option β}{r:β}(a:gG b k=some r)(hd:Do P ⟨some d,op,ty,pos,af,gd⟩ ρ w (.int kk b) w)(n: ∀x,k x=some r->RL P N ops Q rest (upd ρ d (.int kk x)) w)(hw:fP N ops ρ ⟨some d,op,ty,pos,af,gd⟩=true:=by exact rfl)(c:Nat.blt d N=true:=by exact rfl):RL P N ops Q (⟨some d,op,ty,pos,af,gd⟩::rest) ρ w:=aK hw c hd (n b a)
theorem WI {β:Type}{b:Bool}{x y:Option β}{r:β}{c:Operand}{s t:Code}(a:gJ b x y=some r)(hc:ev ρ c=vb b)(ht:x=some r->WP P N s Q ρ w)(hf:y=some r->WP P N t Q ρ w):WP P N (.cond c s t) Q ρ w:=aEr hc (λc=>ht (jX c a)) (λc=>hf (jW c a))
theorem RI {β:Type}{b:Bool}{x y:Option β}{r:β}{z:Operand}(a:gJ b x y=some r)(hx:ev ρ z=vb b)(ht:x=some r->RL P N ops Q rest (upd ρ d (vb true)) w)(hf:y=some r->RL P N ops Q rest (upd ρ d (vb false)) w)(hw:fP N ops ρ ⟨some d,.move z,ty,pos,af,gd⟩=true:=by exact rfl)(e:Nat.blt d N=true:=by exact rfl):RL P N ops Q (⟨some d,.move z,ty,pos,af,gd⟩::rest) ρ w:=RL_splitb hw e hx (λc=>ht (jX c a)) (λc=>hf (jW c a))
theorem RC {f:FuncId}{args:Array Operand}{at_:Array TypeId}{vs:List Value}{v:Value}{O c S:List Nat}{b:World}{l:List Th}(he:Go.OB.Enters P f)(hc:Calls P f vs.toArray w λe a=>e= .returned v/\Hd c w a [] [])(H:Hd O b w S l)(k: ∀a,Hd O b a S l->RL P N ops Q rest (upd ρ d v) a)(ha:args.toList.map (ev ρ)=vs:=by exact rfl)(hw:fP N ops ρ ⟨some d,.call {callee:= .value (.func f),args:=args,argTypes:=at_},ty,pos,af,gd⟩=true:=by exact rfl)(g:Nat.blt d N=true:=by exact rfl):RL P N ops Q (⟨some d,.call {callee:= .value (.func f),args:=args,argTypes:=at_},ty,pos,af,gd⟩::rest) ρ w:=by
 refine xC hw g (yY he ha) hc ?_;rintro _ a ⟨rfl,G⟩;exact⟨_,rfl,k _ (H.step G.only)⟩
end
section
variable {P:Program}{N:Nat}{ops:Array Oper}{Q Q':Exit->Env->World->Prop}{rest:List Oper}{ρ:Env}{w:World}{d:Nat}{t u ty:TypeId}{x y:Operand}{pos:String}{af:Array Edge}{g:Option (Nat×Bool)}
def KK (P:Program)(N:Nat)(y:Code)(Q:Exit->Env->World->Prop):Env->World->Prop:=WP P N y Q
theorem SQ {x y:Code}(h:WP P N x (nV (KK P N y Q) Q) ρ w):WP P N (.seq x y) Q ρ w:=aXe h λ_ _ h=>h
theorem SR {id:Nat}{l:List Oper}{y:Code}(h:RL P N l.toArray (nV (KK P N y Q) Q) l ρ w):WP P N (.seq (.region id l.toArray false) y) Q ρ w:=SQ (zD h)
theorem RM {y:Code}(n:WP P N y Q ρ w):RL P N ops (nV (KK P N y Q) Q') [] ρ w:=yL (zG n)
theorem WZ {y:Code}(n:WP P N y Q ρ w):WP P N .skip (nV (KK P N y Q) Q') ρ w:=yE (zG n)
theorem KN {y:Code}(n:WP P N y Q ρ w):KK P N y Q ρ w:=n
theorem jn {K:Env->World->Prop}(n:K ρ w):RL P N ops (nV K Q') [] ρ w:=yL (zG n)
theorem js {K:Env->World->Prop}(n:K ρ w):WP P N .skip (nV K Q') ρ w:=yE (zG n)
theorem fF {a b:Int}{kk:IntKind}{β:Type}{k:Bool->Option β}{r:β}(c:gG (decide (a<b)) k=some r)(n: ∀x,k x=some r->RL P N ops Q rest (upd ρ d (vb x)) w)(hx:ev ρ x= .int kk a:=by exact rfl)(hy:ev ρ y= .int kk b:=by exact rfl)(hw:fP N ops ρ ⟨some d,.binOp .lss t x y u,ty,pos,af,g⟩=true:=by exact rfl)(e:Nat.blt d N=true:=by exact rfl):RL P N ops Q (⟨some d,.binOp .lss t x y u,ty,pos,af,g⟩::rest) ρ w:=RLb c (aEj hx hy) n hw e
theorem sU {a b:Int}{kk:IntKind}{β:Type}{k:Bool->Option β}{r:β}(c:gG (decide (a<=b)) k=some r)(n: ∀x,k x=some r->RL P N ops Q rest (upd ρ d (vb x)) w)(hx:ev ρ x= .int kk a:=by exact rfl)(hy:ev ρ y= .int kk b:=by exact rfl)(hw:fP N ops ρ ⟨some d,.binOp .leq t x y u,ty,pos,af,g⟩=true:=by exact rfl)(e:Nat.blt d N=true:=by exact rfl):RL P N ops Q (⟨some d,.binOp .leq t x y u,ty,pos,af,g⟩::rest) ρ w:=RLb c (aEl hx hy) n hw e
theorem dS {a b:Int}{kk:IntKind}{β:Type}{k:Bool->Option β}{r:β}(c:gG (decide (b<a)) k=some r)(n: ∀x,k x=some r->RL P N ops Q rest (upd ρ d (vb x)) w)(hx:ev ρ x= .int kk a:=by exact rfl)(hy:ev ρ y= .int kk b:=by exact rfl)(hw:fP N ops ρ ⟨some d,.binOp .gtr t x y u,ty,pos,af,g⟩=true:=by exact rfl)(e:Nat.blt d N=true:=by exact rfl):RL P N ops Q (⟨some d,.binOp .gtr t x y u,ty,pos,af,g⟩::rest) ρ w:=RLb c (aBf hx hy) n hw e
theorem mQ {a b:Int}{kk:IntKind}{β:Type}{k:Bool->Option β}{r:β}(c:gG (decide (b<=a)) k=some r)(n: ∀x,k x=some r->RL P N ops Q rest (upd ρ d (vb x)) w)(hx:ev ρ x= .int kk a:=by exact rfl)(hy:ev ρ y= .int kk b:=by exact rfl)(hw:fP N ops ρ ⟨some d,.binOp .geq t x y u,ty,pos,af,g⟩=true:=by exact rfl)(e:Nat.blt d N=true:=by exact rfl):RL P N ops Q (⟨some d,.binOp .geq t x y u,ty,pos,af,g⟩::rest) ρ w:=RLb c (Do_geq hx hy) n hw e
theorem eQ {a b:Int}{kk:IntKind}{β:Type}{k:Bool->Option β}{r:β}(c:gG (decide (a=b)) k=some r)(n: ∀x,k x=some r->RL P N ops Q rest (upd ρ d (vb x)) w)(hx:ev ρ x= .int kk a:=by exact rfl)(hy:ev ρ y= .int kk b:=by exact rfl)(hw:fP N ops ρ ⟨some d,.binOp .eql t x y u,ty,pos,af,g⟩=true:=by exact rfl)(e:Nat.blt d N=true:=by exact rfl):RL P N ops Q (⟨some d,.binOp .eql t x y u,ty,pos,af,g⟩::rest) ρ w:=RLb c (aQa hx hy) n hw e
theorem dQ {a b:Int}{kk:IntKind}{β:Type}{k:Bool->Option β}{r:β}(c:gG (decide (a≠b)) k=some r)(n: ∀x,k x=some r->RL P N ops Q rest (upd ρ d (vb x)) w)(hx:ev ρ x= .int kk a:=by exact rfl)(hy:ev ρ y= .int kk b:=by exact rfl)(hw:fP N ops ρ ⟨some d,.binOp .neq t x y u,ty,pos,af,g⟩=true:=by exact rfl)(e:Nat.blt d N=true:=by exact rfl):RL P N ops Q (⟨some d,.binOp .neq t x y u,ty,pos,af,g⟩::rest) ρ w:=RLb c (aEm hx hy) n hw e
theorem fE {a b:Int}{kk:IntKind}{β:Type}{k:Int->Option β}{r:β}(c:gG (kk.wrap (a+b)) k=some r)(n: ∀x,k x=some r->RL P N ops Q rest (upd ρ d (.int kk x)) w)(hx:ev ρ x= .int kk a:=by exact rfl)(hy:ev ρ y= .int kk b:=by exact rfl)(hw:fP N ops ρ ⟨some d,.binOp .add t x y u,ty,pos,af,g⟩=true:=by exact rfl)(e:Nat.blt d N=true:=by exact rfl):RL P N ops Q (⟨some d,.binOp .add t x y u,ty,pos,af,g⟩::rest) ρ w:=RLi c (aBm hx hy rfl) n hw e
theorem mZ {a b:Int}{kk:IntKind}{β:Type}{k:Int->Option β}{r:β}(c:gG (kk.wrap (a-b)) k=some r)(n: ∀x,k x=some r->RL P N ops Q rest (upd ρ d (.int kk x)) w)(hx:ev ρ x= .int kk a:=by exact rfl)(hy:ev ρ y= .int kk b:=by exact rfl)(hw:fP N ops ρ ⟨some d,.binOp .sub t x y u,ty,pos,af,g⟩=true:=by exact rfl)(e:Nat.blt d N=true:=by exact rfl):RL P N ops Q (⟨some d,.binOp .sub t x y u,ty,pos,af,g⟩::rest) ρ w:=RLi c (jM hx hy rfl) n hw e
theorem nO {a b:Int}{kk:IntKind}{β:Type}{k:Int->Option β}{r:β}(c:gG (kk.wrap (a*b)) k=some r)(n: ∀x,k x=some r->RL P N ops Q rest (upd ρ d (.int kk x)) w)(hx:ev ρ x= .int kk a:=by exact rfl)(hy:ev ρ y= .int kk b:=by exact rfl)(hw:fP N ops ρ ⟨some d,.binOp .mul t x y u,ty,pos,af,g⟩=true:=by exact rfl)(e:Nat.blt d N=true:=by exact rfl):RL P N ops Q (⟨some d,.binOp .mul t x y u,ty,pos,af,g⟩::rest) ρ w:=RLi c (aCf hx hy rfl) n hw e
theorem sJ {x y:Code}{O S:List Nat}{a b:World}{T:List Th}(_:Hd O a b S T)(W:List Nat)(l:List (Nat×Value))(h:WP P N x (nV (λρ' c=>Fr W ρ ρ'/\ ∃g:Unit,Sl ρ' ((λ_=>l) g)/\(λ_ wl=>Hd O a wl S T) g c) Q) ρ w)(k: ∀(_:Unit) ρ₁ w,Hd O a w S T->WP P N y Q (over ρ ρ₁ W l) w):WP P N (.seq x y) Q ρ w:=aJj W (λ_:Unit=>l) (λ_ wl=>Hd O a wl S T) h k
theorem bE {α β:Type}{p:Prop}{x:Option α}{f:α->Option β}{r:β}(h:gB x f=some r)(k: ∀y,x=some y->f y=some r->p):p:=(zX h).elim λy q=>k y q.1 q.2
theorem lE {α β:Type}{p:Prop}{x:α}{f:α->Option β}{r:β}(h:gG x f=some r)(k: ∀y,x=y->f y=some r->p):p:=(aCv h).elim λy q=>k y q.1 q.2
theorem XQ {I:World->Prop}{κ:List MxM.Kd}{K:MxM.Mm->Env->World->Prop}{k:Nat}{M:MxM.Mm}{σ:List Nat}{v:Value}{op:Op}(h: ∀{a},Do P ⟨some d,op,ty,pos,af,g⟩ ρ a v a)(n:MxM.XL P I N ops κ K M σ rest (upd ρ d v) w)(hk:MxM.kdOf κ k= .pure:=by exact rfl)(hw:fP N ops ρ ⟨some d,op,ty,pos,af,g⟩=true:=by exact rfl)(b:Nat.blt d N=true:=by exact rfl):MxM.XL P I N ops κ K M (k::σ) (⟨some d,op,ty,pos,af,g⟩::rest) ρ w:=MxM.XL_pure hk hw b (λ_ _=>h) n
theorem dB {b:Bool}{β:Type}{k:Bool->Option β}{r:β}(a:gG (!b) k=some r)(n: ∀x,k x=some r->RL P N ops Q rest (upd ρ d (vb x)) w)(hx:ev ρ x=vb b:=by exact rfl)(hw:fP N ops ρ ⟨some d,.unOp .not t x,ty,pos,af,g⟩=true:=by exact rfl)(c:Nat.blt d N=true:=by exact rfl):RL P N ops Q (⟨some d,.unOp .not t x,ty,pos,af,g⟩::rest) ρ w:=RLb a (sS hx) n hw c
theorem pt (v:Value){z:Operand}(n:RL P N ops Q rest (upd ρ d v) w)(hx:ev ρ x=vb true:=by exact rfl)(hy:ev ρ y=v:=by exact rfl)(hw:fP N ops ρ ⟨some d,.pick x y z,ty,pos,af,g⟩=true:=by exact rfl)(a:Nat.blt d N=true:=by exact rfl):RL P N ops Q (⟨some d,.pick x y z,ty,pos,af,g⟩::rest) ρ w:=aK hw a (dG hx hy) n
theorem pf (v:Value){z:Operand}(n:RL P N ops Q rest (upd ρ d v) w)(hx:ev ρ x=vb false:=by exact rfl)(hz:ev ρ z=v:=by exact rfl)(hw:fP N ops ρ ⟨some d,.pick x y z,ty,pos,af,g⟩=true:=by exact rfl)(a:Nat.blt d N=true:=by exact rfl):RL P N ops Q (⟨some d,.pick x y z,ty,pos,af,g⟩::rest) ρ w:=aK hw a (bF hx hz) n
theorem ix {α:Type}{L:List α}{i:Int}{z:α}{e:TypeId}{b o s c:Nat}{kk:IntKind}(hu:P.underlying t=some (.slice e))(hs:Sz P e s)(hx:ev ρ x= .slice (some ⟨b,o,none⟩) L.length c)(h:at' L i=some z)(n:RL P N ops Q rest (upd ρ d (.pointer (some ⟨b,o+i.toNat*s,none⟩))) w)(hy:ev ρ y= .int kk i:=by exact rfl)(hw:fP N ops ρ ⟨some d,.indexAddr t x y,ty,pos,af,g⟩=true:=by exact rfl)(a:Nat.blt d N=true:=by exact rfl):RL P N ops Q (⟨some d,.indexAddr t x y,ty,pos,af,g⟩::rest) ρ w:=aK hw a (dY hu hs hx hy (yS h).1 (yS h).2.1 rfl rfl) n
theorem lb {O S:List Nat}{a:World}{l:List Th}{b T n:Nat}{cs:List Value}(H:Hd O a w S l)(i:Nat)(h:l[i]? =some (.blk b cs T))(c:Agg P t)(hs:Sz P t n)(k:RL P N ops Q rest (upd ρ d (.agg cs.toArray)) w)(hx:ev ρ x= .pointer (some ⟨b,0,none⟩):=by exact rfl)(hl:cs.length=n:=by exact rfl)(hw:fP N ops ρ ⟨some d,.load t x,ty,pos,af,g⟩=true:=by exact rfl)(e:Nat.blt d N=true:=by exact rfl):RL P N ops Q (⟨some d,.load t x,ty,pos,af,g⟩::rest) ρ w:=aK hw e (zZ c hx hs hl (Blk.cells (H.V h))) k
theorem WJ {β:Type}{b:Bool}{x y:Option β}{r:β}{c:Operand}{s t:Code}(a:gJ b x y=some r)(ht:x=some r->WP P N s Q ρ w)(hf:y=some r->WP P N t Q ρ w)(hc:ev ρ c=vb b:=by exact rfl):WP P N (.cond c s t) Q ρ w:=WI a hc ht hf
theorem RJ {β:Type}{b:Bool}{x y:Option β}{r:β}{z:Operand}(a:gJ b x y=some r)(ht:x=some r->RL P N ops Q rest (upd ρ d (vb true)) w)(hf:y=some r->RL P N ops Q rest (upd ρ d (vb false)) w)(hx:ev ρ z=vb b:=by exact rfl)(hw:fP N ops ρ ⟨some d,.move z,ty,pos,af,g⟩=true:=by exact rfl)(c:Nat.blt d N=true:=by exact rfl):RL P N ops Q (⟨some d,.move z,ty,pos,af,g⟩::rest) ρ w:=RI a hx ht hf hw c
end
abbrev Sm {O S:List Nat}{v w:World}{l:List Th}(_:Hd O v w S l)(w':World)(l':List Th):Prop:=Hd O v w' S l'
section
variable {P:Program}{N:Nat}{Q:Exit->Env->World->Prop}{ρ:Env}{w wo:World}{O S:List Nat}{T:List Th}{X Y β:Type}{r:β}{c x y:Code}
abbrev pj (J:List Nat)(t T:List Th):=Go.Lf.pick J (t++T)
theorem jo (_:Hd O wo w S T)(W:List Nat)(l:Y->List (Nat×Value))(t:Y->List Th)(J:List Nat)(h:WP P N x (nV (λρ' a=>Fr W ρ ρ'/\ ∃z:Y,Sl ρ' (l z)/\Hd O wo a S (pj J (t z) T)) Q) ρ w)(k: ∀z ρ₁ w,Hd O wo w S (pj J (t z) T)->WP P N y Q (over ρ ρ₁ W (l z)) w):WP P N (.seq x y) Q ρ w:=aJj W l (λz wl=>Hd O wo wl S (pj J (t z) T)) h k
theorem jk {b:X->Option β}{m:(X->Option β)->Option β}(a:fU b m=some r)(_:Hd O wo w S T)(W:List Nat)(l:X->Y->List (Nat×Value))(t:X->Y->List Th)(J:List Nat)(h: ∀k:X->Option β,m k=some r->WP P N x (nV (λρ' c=>Fr W ρ ρ'/\ ∃u v,Sl ρ' (l u v)/\Hd O wo c S (pj J (t u v) T)/\k u=some r) Q) ρ w)(k: ∀u v ρ₁ w,Hd O wo w S (pj J (t u v) T)->b u=some r->WP P N y Q (over ρ ρ₁ W (l u v)) w):WP P N (.seq x y) Q ρ w:=by
 refine aJj (G:=X×Y) W (λg=>l g.1 g.2) (λg wl=>Hd O wo wl S (pj J (t g.1 g.2) T)/\b g.1=some r) ((h b a).mono ?_) (λg ρ₁ w hg=>k g.1 g.2 ρ₁ w hg.1 hg.2);intro e ρ' c hq
 cases e<;>first |(obtain⟨d,u,v,f,i,j⟩:=hq;exact⟨d,(u,v),f,i,j⟩)|exact hq
theorem lo {b:(X->Option β)->X->Option β}{d:X}(a:fA b d=some r)(_:Hd O wo w S T)(W:List Nat)(l:X->Y->List (Nat×Value))(t:X->Y->List Th)(J:List Nat)(f:Y)(j:Hd O wo w S (pj J (t d f) T))(n: ∀k u v ρ₁ w,Hd O wo w S (pj J (t u v) T)->b k u=some r->WP P N c (nV (λρ' i=>Fr W ρ ρ'/\ ∃u v,Sl ρ' (l u v)/\Hd O wo i S (pj J (t u v) T)/\k u=some r) Q) (over ρ ρ₁ W (l u v)) w)(hs:Sl ρ (l d f):=by repeat (first |exact yC|refine yB rfl ?_)):WP P N (.loop c) Q ρ w:=by
 obtain⟨B,m,rfl,o⟩:=aUx a;refine aLm (G:=Nat×X×Y) W (λg=>l g.2.1 g.2.2) (λg wl=>Hd O wo wl S (pj J (t g.2.1 g.2.2) T)/\jC B g.1 g.2.1=some r) (λg=>g.1) (m,d,f) hs ⟨j,o⟩ ?_;rintro⟨m,u,v⟩ ρ₁ w ⟨p,h⟩;obtain⟨m,rfl,h⟩:=loopN_pos h;refine(n (jC B m) u v ρ₁ w p h).mono ?_;intro e ρ' i hq
 cases e<;>first |(obtain⟨q,u',v',s,x,y⟩:=hq;exact⟨q,(m,u',v'),s,⟨x,y⟩,Nat.lt_succ_self _⟩)|exact hq
theorem me {W:List Nat}{ρ ρ':Env}{k:X->Option β}{l:X->Y->List (Nat×Value)}{B:X->Y->Prop}{u:X}(a:k u=some r)(y:Y)(h:B u y)(hs:Sl ρ' (l u y):=by repeat (first |exact yC|refine yB rfl ?_))(hf:Fr W ρ ρ':=by repeat' (first |with_reducible exact aFw|refine aQp rfl ?_|refine aJg rfl rfl ?_)):Fr W ρ ρ'/\ ∃u v,Sl ρ' (l u v)/\B u v/\k u=some r:=⟨hf,u,y,hs,h,a⟩
end
section
variable {P:Program}{N:Nat}{ops:Array Oper}{Q:Exit->Env->World->Prop}{rest:List Oper}{ρ:Env}{w wo:World}{d dd:Nat}{op:Op}{t e tt uu ty tyy:TypeId}{x y xx:Operand}{pos poo:String}{af aff:Array Edge}{g gg:Option (Nat×Bool)}{f:FuncId}{args:Array Operand}{at_:Array TypeId}{vs:List Value}{O S:List Nat}{l:List Th}{α β A B C D:Type}{r:β}{v:Value}
theorem xu {R:World->Prop}(h: ∃a,DoU P ⟨none,op,ty,pos,af,g⟩ ρ w a/\R a)(k: ∀a,R a->RL P N ops Q rest ρ a)(hw:fP N ops ρ ⟨none,op,ty,pos,af,g⟩=true:=by exact rfl):RL P N ops Q (⟨none,op,ty,pos,af,g⟩::rest) ρ w:=RL_exU hw h k
theorem xv {R:Value->World->Prop}(h: ∃v a,Do P ⟨some d,op,ty,pos,af,g⟩ ρ w v a/\R v a)(k: ∀v a,R v a->RL P N ops Q rest (upd ρ d v) a)(hw:fP N ops ρ ⟨some d,op,ty,pos,af,g⟩=true:=by exact rfl)(hd:Nat.blt d N=true:=by exact rfl):RL P N ops Q (⟨some d,op,ty,pos,af,g⟩::rest) ρ w:=nK hw hd h k
theorem xb {R:Nat->World->Prop}(h: ∃v a,Do P ⟨some d,op,ty,pos,af,g⟩ ρ w v a/\ ∃b,v= .pointer (some ⟨b,0,none⟩)/\R b a)(k: ∀b a,R b a->RL P N ops Q rest (upd ρ d (.pointer (some ⟨b,0,none⟩))) a)(hw:fP N ops ρ ⟨some d,op,ty,pos,af,g⟩=true:=by exact rfl)(hd:Nat.blt d N=true:=by exact rfl):RL P N ops Q (⟨some d,op,ty,pos,af,g⟩::rest) ρ w:=nK hw hd h λ_ _ ⟨b,e,q⟩=>e▸k b _ q
theorem ln {L:List α}{rr:Rp α}{F:Nat->Prop}{k:Int->Option β}{b:World}(f:gG (L.length:Int) k=some r)(h:SlF rr F b v L)(hu:P.underlying t=some (.slice e))(n: ∀x,k x=some r->RL P N ops Q rest (upd ρ d (.int .i64 x)) w)(hx:ev ρ x=v:=by exact rfl)(hw:fP N ops ρ ⟨some d,.call {callee:= .builtin .len,args:= #[x],argTypes:= #[t]},ty,pos,af,g⟩=true:=by exact rfl)(i:Nat.blt d N=true:=by exact rfl):RL P N ops Q (⟨some d,.call {callee:= .builtin .len,args:= #[x],argTypes:= #[t]},ty,pos,af,g⟩::rest) ρ w:=by
 obtain⟨a,c,q⟩:=SlF.len h;exact aK hw i (dL hu (hx.trans q)) (n _ f)
theorem rea {L:List α}{a:α}{rr:Rp α}{j:Int}{kk:IntKind}(H:Hd O wo w S l)(k:SlF rr (frees O l) w v L)(z:Value)(h:at' L j=some a)(hu:P.underlying t=some (.slice e))(hs:Sz P e 1)(m:aAs P tt)(n: ∀b o,Hd O wo w S (l++[.fz (.at b (o+j.toNat*1) [z])])->RL P N ops Q rest (upd (upd ρ d (.pointer (some ⟨b,o+j.toNat*1,none⟩))) dd z) w)(hc: ∀F w cs,rr.rd F w cs a->cs=[z]:=by exact λ_ _ _ h=>h)(p:rr.sz=1:=by exact rfl)(hx:ev ρ x=v:=by exact rfl)(hy:ev ρ y= .int kk j:=by exact rfl)(r: ∀q,ev (upd ρ d q) xx=q:=by exact λ_=>rfl)(hw:fP N ops ρ ⟨some d,.indexAddr t x y,ty,pos,af,g⟩=true:=by exact rfl)(hd:Nat.blt d N=true:=by exact rfl)(hv: ∀q,fP N ops (upd ρ d q) ⟨some dd,.load tt xx,tyy,poo,aff,gg⟩=true:=by exact λ_=>rfl)(s:Nat.blt dd N=true:=by exact rfl):RL P N ops Q (⟨some d,.indexAddr t x y,ty,pos,af,g⟩::⟨some dd,.load tt xx,tyy,poo,aff,gg⟩::rest) ρ w:=by
 obtain⟨b,o,c,cs,q,u,A,B,f⟩:=yP k h;obtain rfl:=hc _ _ _ u;rw [p]at f;refine aK hw hd (dY hu hs (hx.trans q) hy (yS h).1 (yS h).2.1 rfl rfl) (aK (hv _) s (yJ m (r _) (Cells.get f (i:=0) rfl)) ?_);exact n b o (H.fz (.at b (o+j.toNat*1) [z]) ⟨A,B,f⟩)
theorem cAz {V:Value}{R:World->Prop}(he:Go.OB.Enters P f)(hc:Calls P f vs.toArray w λe a=>e= .returned V/\R a)(n: ∀a,R a->RL P N ops Q rest (upd ρ d V) a)(ha:args.toList.map (ev ρ)=vs:=by exact rfl)(hw:fP N ops ρ ⟨some d,.call {callee:= .value (.func f),args:=args,argTypes:=at_},ty,pos,af,g⟩=true:=by exact rfl)(b:Nat.blt d N=true:=by exact rfl):RL P N ops Q (⟨some d,.call {callee:= .value (.func f),args:=args,argTypes:=at_},ty,pos,af,g⟩::rest) ρ w:=xC hw b (yY he ha) hc λ_ _ ⟨e,q⟩=>⟨_,e,n _ q⟩
theorem cAa {V:A->Value}{R:A->World->Prop}(he:Go.OB.Enters P f)(hc:Calls P f vs.toArray w λe b=> ∃a,e= .returned (V a)/\R a b)(n: ∀a b,R a b->RL P N ops Q rest (upd ρ d (V a)) b)(ha:args.toList.map (ev ρ)=vs:=by exact rfl)(hw:fP N ops ρ ⟨some d,.call {callee:= .value (.func f),args:=args,argTypes:=at_},ty,pos,af,g⟩=true:=by exact rfl)(c:Nat.blt d N=true:=by exact rfl):RL P N ops Q (⟨some d,.call {callee:= .value (.func f),args:=args,argTypes:=at_},ty,pos,af,g⟩::rest) ρ w:=xC hw c (yY he ha) hc λ_ _ ⟨a,e,q⟩=>⟨_,e,n a _ q⟩
theorem cAb {V:A->B->Value}{R:A->B->World->Prop}(he:Go.OB.Enters P f)(hc:Calls P f vs.toArray w λe c=> ∃a b,e= .returned (V a b)/\R a b c)(n: ∀a b c,R a b c->RL P N ops Q rest (upd ρ d (V a b)) c)(ha:args.toList.map (ev ρ)=vs:=by exact rfl)(hw:fP N ops ρ ⟨some d,.call {callee:= .value (.func f),args:=args,argTypes:=at_},ty,pos,af,g⟩=true:=by exact rfl)(h:Nat.blt d N=true:=by exact rfl):RL P N ops Q (⟨some d,.call {callee:= .value (.func f),args:=args,argTypes:=at_},ty,pos,af,g⟩::rest) ρ w:=xC hw h (yY he ha) hc λ_ _ ⟨a,b,e,q⟩=>⟨_,e,n a b _ q⟩
theorem cAc {V:A->B->C->Value}{R:A->B->C->World->Prop}(he:Go.OB.Enters P f)(hc:Calls P f vs.toArray w λe h=> ∃a b c,e= .returned (V a b c)/\R a b c h)(n: ∀a b c h,R a b c h->RL P N ops Q rest (upd ρ d (V a b c)) h)(ha:args.toList.map (ev ρ)=vs:=by exact rfl)(hw:fP N ops ρ ⟨some d,.call {callee:= .value (.func f),args:=args,argTypes:=at_},ty,pos,af,g⟩=true:=by exact rfl)(i:Nat.blt d N=true:=by exact rfl):RL P N ops Q (⟨some d,.call {callee:= .value (.func f),args:=args,argTypes:=at_},ty,pos,af,g⟩::rest) ρ w:=xC hw i (yY he ha) hc λ_ _ ⟨a,b,c,e,q⟩=>⟨_,e,n a b c _ q⟩
theorem cAd {V:A->B->C->D->Value}{R:A->B->C->D->World->Prop}(he:Go.OB.Enters P f)(hc:Calls P f vs.toArray w λe h=> ∃a b c z,e= .returned (V a b c z)/\R a b c z h)(n: ∀a b c z h,R a b c z h->RL P N ops Q rest (upd ρ d (V a b c z)) h)(ha:args.toList.map (ev ρ)=vs:=by exact rfl)(hw:fP N ops ρ ⟨some d,.call {callee:= .value (.func f),args:=args,argTypes:=at_},ty,pos,af,g⟩=true:=by exact rfl)(i:Nat.blt d N=true:=by exact rfl):RL P N ops Q (⟨some d,.call {callee:= .value (.func f),args:=args,argTypes:=at_},ty,pos,af,g⟩::rest) ρ w:=xC hw i (yY he ha) hc λ_ _ ⟨a,b,c,z,e,q⟩=>⟨_,e,n a b c z _ q⟩
abbrev KOne (rr:Rp α)(f:α->Value):Prop:=(∀F w c x,rr.rd F w c x↔c=[f x])/\rr.sz=1/\ ∀x,(f x).cells= #[f x]
theorem kStr:KOne Rp.str (λs=> .string (bs s)):=⟨λ_ _ _ _=>Iff.rfl,rfl,λ_=>rfl⟩
theorem kInt:KOne (Rp.int .i64) (.int .i64):=⟨λ_ _ _ _=>Iff.rfl,rfl,λ_=>rfl⟩
theorem kByt:KOne (Rp.int .u8) (.int .u8):=⟨λ_ _ _ _=>Iff.rfl,rfl,λ_=>rfl⟩
theorem ll {rr:Rp α}{f:α->Value}(k:KOne rr f){len bytes:Nat}{zs:List Value}{parts:Array (Nat×Operand)}(xl:List α)(hu:P.underlying t=some (.slice e))(he:El P e rr.sz bytes zs)(H:Hd O wo w S l)(hn:xl.length=len:=by exact rfl)(hp:Nat.blt 0 len=true:=by exact rfl)(hs:Nat.ble len 16777216=true:=by exact rfl)(hi:parts.toList.map Prod.fst=List.range len:=by exact rfl)(hv:parts.toList.map (λp=>ev ρ p.2)=xl.map f:=by exact rfl): ∃v b,Do P ⟨some d,.buildSlice t len parts,ty,pos,af,g⟩ ρ w v b/\fM w b/\Hd O wo b S (l++[.own rr v e xl]):=by
 obtain⟨hl,a,hc⟩:=k;have j: ∀xl:List α,aYo 1 (xl.map f):=λxl=>by
  induction xl with
  |nil=>exact True.intro
  |cons x xl ih=>exact⟨by rw [hc];rfl,ih⟩
 have m: ∀xl:List α,rows rr (frees O l) w (xl.map f) xl:=λxl=>by
  induction xl with
  |nil=>rfl
  |cons x xl ih=>exact⟨[f x],_,rfl,(hl _ _ _ _).2 rfl,ih⟩
 have n:(xl.map f).flatMap (λv=>v.cells.toList)=xl.map f:=by
  clear hn hv
  induction xl with
  |nil=>rfl
  |cons x xl ih=>rw [List.map_cons,List.flatMap_cons,ih,hc];rfl
 have c:len*rr.sz<=16777216:=by rw [a,Nat.mul_one];exact Nat.le_of_ble_eq_true hs
 have h:0<len*rr.sz:=by rw [a,Nat.mul_one];exact Nat.le_of_ble_eq_true hp
 have i:jR rr.sz len zs (parts.toList.map λp=>(p.1,ev ρ p.2))=some (xl.map f):=kG (by rw [a];decide) hi hv (by rw [a];exact j xl) n;exact aFb (Lx_bs hu he c h hn i H (m xl)) (aGa hu he c h i)
theorem snd3 {R Y Z:Value->World->Prop}(h: ∃v c,R v c/\Y v c/\Z v c): ∃v c,R v c/\Z v c:=let ⟨v,c,a,_,b⟩:=h;⟨v,c,a,b⟩
theorem kl {rr:Rp α}{f:α->Value}(k:KOne rr f){len bytes:Nat}{zs:List Value}{parts:Array (Nat×Operand)}(xl:List α)(hu:P.underlying t=some (.slice e))(he:El P e rr.sz bytes zs)(H:Hd O wo w S l)(hn:xl.length=len:=by exact rfl)(hp:Nat.blt 0 len=true:=by exact rfl)(hs:Nat.ble len 16777216=true:=by exact rfl)(hi:parts.toList.map Prod.fst=List.range len:=by exact rfl)(hv:parts.toList.map (λp=>ev ρ p.2)=xl.map f:=by exact rfl): ∃v a,Do P ⟨some d,.buildSlice t len parts,ty,pos,af,g⟩ ρ w v a/\Hd O wo a S (l++[.own rr v e xl]):=snd3 (ll k xl hu he H hn hp hs hi hv)
theorem lOne (rr:Rp α)(x:α)(cs:List Value){bytes:Nat}{zs:List Value}{q:Operand}(hu:P.underlying t=some (.slice e))(he:El P e rr.sz bytes zs)(hr:rr.rd (frees O l) w cs x)(H:Hd O wo w S l)(a:cs.length=rr.sz:=by exact rfl)(c:Nat.blt 0 cs.length=true:=by exact rfl)(j:Nat.ble cs.length 16777216=true:=by exact rfl)(hv:ev ρ q= .agg cs.toArray:=by exact rfl): ∃v b,Do P ⟨some d,.buildSlice t 1 #[(0,q)],ty,pos,af,g⟩ ρ w v b/\fM w b/\Hd O wo b S (l++[.own rr v e [x]]):=by
 have f:1*rr.sz<=16777216:=by rw [<-a,Nat.one_mul];exact Nat.le_of_ble_eq_true j
 have h:0<1*rr.sz:=by rw [<-a,Nat.one_mul];exact Nat.le_of_ble_eq_true c
 have i:jR rr.sz 1 zs ((#[(0,q)]:Array (Nat×Operand)).toList.map λp=>(p.1,ev ρ p.2))=some cs:=kG (vs:=[.agg cs.toArray]) (by rw [<-a];exact Nat.le_of_ble_eq_true c) rfl (by simp [hv]) ⟨by rw [<-a];simp [Value.cells],T1⟩ (by simp [Value.cells]);exact aFb (Lx_bs hu he f h rfl i H ⟨cs,[],by simp,hr,rfl⟩) (aGa hu he f h i)
theorem pR (rr:Rp α)(x:α)(cs:List Value){bytes:Nat}{zs:List Value}{q:Operand}(hu:P.underlying t=some (.slice e))(he:El P e rr.sz bytes zs)(hr:rr.rd (frees O l) w cs x)(H:Hd O wo w S l)(b:cs.length=rr.sz:=by exact rfl)(c:Nat.blt 0 cs.length=true:=by exact rfl)(f:Nat.ble cs.length 16777216=true:=by exact rfl)(hv:ev ρ q= .agg cs.toArray:=by exact rfl): ∃v a,Do P ⟨some d,.buildSlice t 1 #[(0,q)],ty,pos,af,g⟩ ρ w v a/\Hd O wo a S (l++[.own rr v e [x]]):=snd3 (lOne rr x cs hu he hr H b c f hv)
theorem Xu {κ:List MxM.Kd}{K:MxM.Mm->Env->World->Prop}{k:Nat}{M:MxM.Mm}{σ Si:List Nat}{vo:World}{R:World->World->Prop}(h: ∀b,fM w b-> ∃a,DoU P ⟨none,op,ty,pos,af,g⟩ ρ b a/\R b a)(n: ∀b a,fM w b->R b a->MxM.XL P (λa=>Only Si vo a) N ops κ K none σ rest ρ a)(ho: ∀b a,R b a->Only Si vo a:=by exact λ_ _ h=>h.only)(hk:MxM.kdOf κ k= .eff:=by exact rfl)(hw:fP N ops ρ ⟨none,op,ty,pos,af,g⟩=true:=by exact rfl):MxM.XL P (λa=>Only Si vo a) N ops κ K M (k::σ) (⟨none,op,ty,pos,af,g⟩::rest) ρ w:=MxM.XL_exU oS hk hw h λ_ _ s q=>⟨ho _ _ q,n _ _ s q⟩
theorem Xe {κ:List MxM.Kd}{K:MxM.Mm->Env->World->Prop}{k:Nat}{M:MxM.Mm}{σ Si:List Nat}{vo:World}{R:World->Value->World->Prop}(h: ∀b,fM w b-> ∃v a,Do P ⟨some d,op,ty,pos,af,g⟩ ρ b v a/\R b v a)(n: ∀b v a,fM w b->R b v a->MxM.XL P (λa=>Only Si vo a) N ops κ K none σ rest (upd ρ d v) a)(ho: ∀b v a,R b v a->Only Si vo a:=by exact λ_ _ _ h=>h.only)(hk:MxM.kdOf κ k= .eff:=by exact rfl)(hw:fP N ops ρ ⟨some d,op,ty,pos,af,g⟩=true:=by exact rfl)(hd:Nat.blt d N=true:=by exact rfl):MxM.XL P (λa=>Only Si vo a) N ops κ K M (k::σ) (⟨some d,op,ty,pos,af,g⟩::rest) ρ w:=MxM.XL_ex oS hk hw hd h λ_ _ _ s q=>⟨ho _ _ _ q,n _ _ _ s q⟩
end
abbrev Cl (f:Nat)(a:List Value)(w:World)(R:Ending->World->Prop):Prop:=Calls Tryz.prog f a.toArray w R
abbrev Rt (f:Nat)(a:List Value)(v:Value)(w:World)(O S:List Nat)(L:List Th):Prop:=Cl f a w λe h=>e= .returned v/\Hd O w h S L
abbrev i6 (n:Int):Value:= .int .i64 n
abbrev sb (s:Str):Value:= .string (bs s)
abbrev f1 {α:Type}(r:Rp α)(v:Value)(l:List α):Th:= .fz (.sl r v l)
theorem Hbc {O S:List Nat}{a w:World}{l:List Th}{b:Nat}{T:TypeId}{cs:List Value}(H:Hd O a w S l)(i:Nat)(h:l[i]? =some (.blk b cs T)):Cells w ⟨b,0,none⟩ cs:=Blk.cells (H.V h)
theorem Hbg {O S:List Nat}{a w:World}{l:List Th}{b:Nat}{T:TypeId}{cs:List Value}{v:Value}(H:Hd O a w S l)(i j:Nat)(h:l[i]? =some (.blk b cs T))(c:cs[j]? =some v):w.cell? ⟨b,0+j,none⟩=some v:=Cells.get (Blk.cells (H.V h)) c
theorem XP {P:Program}{I:World->Prop}{N:Nat}{ops:Array Oper}{κ:List MxM.Kd}{K:MxM.Mm->Env->World->Prop}{k:Nat}{M:MxM.Mm}{σ:List Nat}{rest:List Oper}{ρ:Env}{w:World}{d:Nat}{ty:TypeId}{pos:String}{af:Array Edge}{g:Option (Nat×Bool)}{v:Value}{op:Op}(h: ∀a,I a->Do P ⟨some d,op,ty,pos,af,g⟩ ρ a v a)(n:MxM.XL P I N ops κ K M σ rest (upd ρ d v) w)(hk:MxM.kdOf κ k= .pure:=by exact rfl)(hw:fP N ops ρ ⟨some d,op,ty,pos,af,g⟩=true:=by exact rfl)(hd:Nat.blt d N=true:=by exact rfl):MxM.XL P I N ops κ K M (k::σ) (⟨some d,op,ty,pos,af,g⟩::rest) ρ w:=MxM.XL_pure hk hw hd h n
theorem XO {P:Program}{I:World->Prop}{N:Nat}{ops:Array Oper}{κ:List MxM.Kd}{K:MxM.Mm->Env->World->Prop}{k:Nat}{M:MxM.Mm}{σ:List Nat}{rest:List Oper}{ρ:Env}{w:World}{d:Nat}{ty:TypeId}{pos:String}{af:Array Edge}{g:Option (Nat×Bool)}{op:Op}(n:MxM.XL P I N ops κ K M σ rest (upd ρ d undef) w)(hk:MxM.kdOf κ k= .pure:=by exact rfl)(hw:fP N ops ρ ⟨some d,op,ty,pos,af,g⟩=false:=by exact rfl)(hd:Nat.blt d N=true:=by exact rfl):MxM.XL P I N ops κ K M (k::σ) (⟨some d,op,ty,pos,af,g⟩::rest) ρ w:=MxM.XL_offp hk hw hd n
theorem XM {P:Program}{I:World->Prop}{N:Nat}{ops:Array Oper}{κ:List MxM.Kd}{K:MxM.Mm->Env->World->Prop}{k:Nat}{M:MxM.Mm}{σ:List Nat}{rest:List Oper}{ρ:Env}{w:World}{d:Nat}{ty:TypeId}{pos:String}{af:Array Edge}{g:Option (Nat×Bool)}{x:Operand}(v:Value)(n:MxM.XL P I N ops κ K M σ rest (upd ρ d v) w)(hx:ev ρ x=v:=by exact rfl)(hk:MxM.kdOf κ k= .pure:=by exact rfl)(hw:fP N ops ρ ⟨some d,.move x,ty,pos,af,g⟩=true:=by exact rfl)(hd:Nat.blt d N=true:=by exact rfl):MxM.XL P I N ops κ K M (k::σ) (⟨some d,.move x,ty,pos,af,g⟩::rest) ρ w:=MxM.XL_pure hk hw hd (λ_ _=>aG hx) n
theorem XR {P:Program}{c:World}{e:List Nat}{N:Nat}{ops:Array Oper}{κ:List MxM.Kd}{K:MxM.Mm->Env->World->Prop}{k:Nat}{M:MxM.Mm}{σ:List Nat}{rest:List Oper}{ρ:Env}{w:World}{d:Nat}{ty:TypeId}{pos:String}{af:Array Edge}{g:Option (Nat×Bool)}{t:TypeId}{x:Operand}{O S:List Nat}{f:World}{l:List Th}{b:Nat}{T:TypeId}{cs:List Value}{v:Value}(o:aAs P t)(H:Hd O f w S l)(i j:Nat)(h:l[i]? =some (.blk b cs T))(m:cs[j]? =some v)(n:MxM.XL P (λa=>Only e c a) N ops κ K M σ rest (upd ρ d v) w)(hx:ev ρ x= .pointer (some ⟨b,0+j,none⟩):=by exact rfl)(hk:MxM.kdOf κ k= .read:=by exact rfl)(hw:fP N ops ρ ⟨some d,.load t x,ty,pos,af,g⟩=true:=by exact rfl)(hd:Nat.blt d N=true:=by exact rfl):MxM.XL P (λa=>Only e c a) N ops κ K M (k::σ) (⟨some d,.load t x,ty,pos,af,g⟩::rest) ρ w:=MxM.yQ oS hk hw hd (λ_ p=>yJ o hx (Hbg (H.Z p) i j h m)) n
theorem Ld {P:Program}{N:Nat}{ops:Array Oper}{Q:Exit->Env->World->Prop}{rest:List Oper}{ρ:Env}{w:World}{d:Nat}{t ty:TypeId}{x:Operand}{pos:String}{af:Array Edge}{g:Option (Nat×Bool)}{O S:List Nat}{a:World}{l:List Th}{b:Nat}{T:TypeId}{cs:List Value}{v:Value}(o:aAs P t)(H:Hd O a w S l)(i j:Nat)(h:l[i]? =some (.blk b cs T))(c:cs[j]? =some v)(k:RL P N ops Q rest (upd ρ d v) w)(hx:ev ρ x= .pointer (some ⟨b,0+j,none⟩):=by exact rfl)(hw:fP N ops ρ ⟨some d,.load t x,ty,pos,af,g⟩=true:=by exact rfl)(hd:Nat.blt d N=true:=by exact rfl):RL P N ops Q (⟨some d,.load t x,ty,pos,af,g⟩::rest) ρ w:=zH (yJ o hx (Hbg H i j h c)) k hw hd
theorem fD {f:FuncId}{fn:Func}(h:Tryz.prog.funcs[f]? =some fn)(a:fn.body.isSome=true:=by exact rfl)(b:(fn.name== "runtime.NumGoroutine")=false:=by kernel_rfl):Go.OB.Enters Tryz.prog f:=⟨_,h,a,b⟩
theorem u2:Tryz.prog.underlying 2=some (.int .i64):=Tryz.underlying2
theorem u3:Tryz.prog.underlying 3=some (.int .i64):=Tryz.underlying3
theorem u4:Tryz.prog.underlying 4=some .bool:=Tryz.underlying4
theorem u5:Tryz.prog.underlying 5=some (.int .u8):=Tryz.underlying5
theorem u9:Tryz.prog.underlying 9=some .string:=Tryz.underlying9
theorem u22:Tryz.prog.underlying 22=some (.slice 128):=Tryz.underlying22
theorem u25:Tryz.prog.underlying 25=some (.slice 56):=Tryz.underlying25
theorem u26:Tryz.prog.underlying 26=some (.slice 116):=Tryz.underlying26
theorem u29:Tryz.prog.underlying 29=some (.slice 9):=Tryz.underlying29
theorem u31:Tryz.prog.underlying 31=some (.slice 98):=Tryz.underlying31
theorem u50:Tryz.prog.underlying 50=some (.slice 3):=Tryz.underlying50
theorem u54:Tryz.prog.underlying 54=some (.slice 146):=Tryz.underlying54
theorem u58:Tryz.prog.underlying 58=some (.slice 5):=Tryz.underlying58
theorem u72:Tryz.prog.underlying 72=some (.slice 207):=Tryz.underlying72
theorem u73:Tryz.prog.underlying 73=some (.slice 211):=Tryz.underlying73
theorem u83:Tryz.prog.underlying 83=some (.map 98 4):=Tryz.underlying83
theorem u86:Tryz.prog.underlying 86=some (.slice 166):=Tryz.underlying86
theorem aGe:Tryz.prog.underlying 111=some (.int .u16):=Tryz.underlying111
theorem pX:Tryz.prog.underlying 113=some (.array 64 111):=Tryz.underlying113
theorem aVm:Tryz.prog.underlying 114=some (.array 64 3):=Tryz.underlying114
theorem uB:Tryz.prog.underlying 126=some (.slice 251):=Tryz.underlying126
theorem u131:Tryz.prog.underlying 131=some (.slice 137):=Tryz.underlying131
theorem aBr:Tryz.prog.underlying 135=some (.slice 139):=Tryz.underlying135
theorem aFt:Tryz.prog.underlying 144=some (.slice 197):=Tryz.underlying144
theorem u194:Tryz.prog.underlying 194=some (.map 299 4):=Tryz.underlying194
theorem sV:Tryz.prog.underlying 203=some (.slice 205):=Tryz.underlying203
theorem u231:Tryz.prog.underlying 231=some (.map 282 3):=Tryz.underlying231
theorem u238:Tryz.prog.underlying 238=some (.array 16 116):=Tryz.underlying238
theorem u250:Tryz.prog.underlying 250=some (.int .u64):=Tryz.underlying250
theorem uA:Tryz.prog.underlying 254=some (.map 3 3):=Tryz.underlying254
theorem u258:Tryz.prog.underlying 258=some (.array 2 3):=Tryz.underlying258
theorem u270:Tryz.prog.underlying 270=some (.map 9 4):=Tryz.underlying270
theorem u279:Tryz.prog.underlying 279=some (.slice 282):=Tryz.underlying279
theorem aIh:Tryz.prog.underlying 300=some (.slice 328):=Tryz.underlying300
theorem u322:Tryz.prog.underlying 322=some (.array 4 111):=Tryz.underlying322
theorem u331:Tryz.prog.underlying 331=some (.array 7 9):=Tryz.underlying331
theorem u345:Tryz.prog.underlying 345=some (.array 4 3):=Tryz.underlying345
theorem aIj:Tryz.prog.underlying 360=some (.map 3 359):=Tryz.underlying360
theorem fo154_2:aCt Tryz.prog 154 2=some (2,3):=by kernel_rfl
theorem fo154_3:aCt Tryz.prog 154 3=some (3,9):=by kernel_rfl
theorem fo342_3:aCt Tryz.prog 342 3=some (3,340):=by kernel_rfl
theorem ui305:Tryz.prog.underlying 305=some (.interface (Tryz.prog.methodsAt 305)):=by kernel_rfl
abbrev szZ (a b:Nat):Prop:=Sz Tryz.prog a b
theorem szO {a b:Nat}(h:Sz Tryz.prog a b:=by unfold Sz;kernel_rfl):szZ a b:=h
theorem sz3:szZ 3 1:=szO
theorem sz4:szZ 4 1:=szO
theorem sz9:szZ 9 1:=szO
theorem aAn:szZ 24 2:=szO
theorem aEp:szZ 28 4:=szO
theorem sz29:szZ 29 1:=szO
theorem nS:szZ 56 4:=szO
theorem sz58:szZ 58 1:=szO
theorem sz72:szZ 72 1:=szO
theorem sz73:szZ 73 1:=szO
theorem vJ:szZ 75 3:=szO
theorem sz85:szZ 85 1:=szO
theorem sz86:szZ 86 1:=szO
theorem rX:szZ 88 2:=szO
theorem sK:szZ 98 2:=szO
theorem aU:szZ 111 1:=szO
theorem aBn:szZ 113 64:=szO
theorem sz114:szZ 114 64:=szO
theorem dM:szZ 116 132:=szO
theorem fH:szZ 128 8:=szO
theorem sz135:szZ 135 1:=szO
theorem aF:szZ 137 4:=szO
theorem qF:szZ 139 4:=szO
theorem aOl:szZ 146 4:=szO
theorem aOj:szZ 154 4:=szO
theorem sz158:szZ 158 2:=szO
theorem tN:szZ 197 4:=szO
theorem sz203:szZ 203 1:=szO
theorem fJ:szZ 205 7:=szO
theorem aFs:szZ 207 9:=szO
theorem pJ:szZ 211 8:=szO
theorem sz238:szZ 238 2112:=szO
theorem kE:szZ 251 4:=szO
theorem sz270:szZ 270 1:=szO
theorem aNx:szZ 282 3:=szO
theorem aYh:szZ 299 3:=szO
theorem sz329:szZ 329 1:=szO
theorem nM:szZ 333 7:=szO
theorem jJ:szZ 342 4:=szO
theorem sz358:szZ 358 1:=szO
abbrev sZ (a:Nat):Prop:=aAs Tryz.prog a
theorem uH {a:Nat}(h:aAs Tryz.prog a:=by unfold aAs;kernel_rfl):sZ a:=h
theorem gX:sZ 3:=uH
theorem vM:sZ 4:=uH
theorem dE:sZ 9:=uH
theorem nZ:sZ 22:=uH
theorem sN:sZ 25:=uH
theorem tY:sZ 26:=uH
theorem mY:sZ 29:=uH
theorem one32:sZ 32:=uH
theorem aSd:sZ 54:=uH
theorem one58:sZ 58:=uH
theorem aTo:sZ 72:=uH
theorem aBp:sZ 73:=uH
theorem one85:sZ 85:=uH
theorem one86:sZ 86:=uH
theorem dP:sZ 111:=uH
theorem qJ:sZ 126:=uH
theorem sQ:sZ 135:=uH
theorem tK:sZ 144:=uH
theorem jD:sZ 152:=uH
theorem aDv:sZ 203:=uH
theorem aWz:sZ 270:=uH
theorem one329:sZ 329:=uH
theorem one340:sZ 340:=uH
theorem aUn:sZ 358:=uH
abbrev sF (a:Nat):Prop:=Agg Tryz.prog a
theorem tC {a:Nat}(h:Agg Tryz.prog a:=by unfold Agg;kernel_rfl):sF a:=h
theorem qK:sF 24:=tC
theorem uX:sF 28:=tC
theorem wH:sF 56:=tC
theorem sD:sF 75:=tC
theorem aAd:sF 88:=tC
theorem aBo:sF 98:=tC
theorem tH:sF 113:=tC
theorem agg114:sF 114:=tC
theorem wK:sF 116:=tC
theorem fQ:sF 128:=tC
theorem qV:sF 137:=tC
theorem aEe:sF 139:=tC
theorem aWs:sF 146:=tC
theorem aWl:sF 154:=tC
theorem aGp:sF 197:=tC
theorem eH:sF 205:=tC
theorem aOq:sF 207:=tC
theorem aEo:sF 211:=tC
theorem agg238:sF 238:=tC
theorem vC:sF 251:=tC
theorem aPt:sF 282:=tC
theorem aVf:sF 299:=tC
theorem uZ:sF 333:=tC
theorem rE:sF 342:=tC
theorem zero3:Go.OB.Zero Tryz.prog 3 ([i6 0]):=by unfold Go.OB.Zero;kernel_rfl
theorem zero4:Go.OB.Zero Tryz.prog 4 ([vb false]):=by unfold Go.OB.Zero;kernel_rfl
theorem zero29:Go.OB.Zero Tryz.prog 29 ([.slice none 0 0]):=by unfold Go.OB.Zero;kernel_rfl
theorem aBv:Go.OB.Zero Tryz.prog 56 ([.string (bs []),.string (bs []),.slice none 0 0,i6 0]):=by unfold Go.OB.Zero;kernel_rfl
theorem aRd:Go.OB.Zero Tryz.prog 75 ([.slice none 0 0,.slice none 0 0,.slice none 0 0]):=by unfold Go.OB.Zero;kernel_rfl
theorem zero85:Go.OB.Zero Tryz.prog 85 ([.nilFunc]):=by unfold Go.OB.Zero;kernel_rfl
theorem aEi:Go.OB.Zero Tryz.prog 88 ([i6 0,.slice none 0 0]):=by unfold Go.OB.Zero;kernel_rfl
theorem zero98:Go.OB.Zero Tryz.prog 98 ([i6 0,i6 0]):=by unfold Go.OB.Zero;kernel_rfl
theorem aOv:Go.OB.Zero Tryz.prog 116 ([i6 0,.int .u16 0,.int .u16 0,.int .u16 0,.int .u16 0,.int .u16 0,.int .u16 0,.int .u16 0,.int .u16 0,.int .u16 0,.int .u16 0,.int .u16 0,.int .u16 0,.int .u16 0,.int .u16 0,.int .u16 0,.int .u16 0,.int .u16 0,.int .u16 0,.int .u16 0,.int .u16 0,.int .u16 0,.int .u16 0,.int .u16 0,.int .u16 0,.int .u16 0,.int .u16 0,.int .u16 0,.int .u16 0,.int .u16 0,.int .u16 0,.int .u16 0,.int .u16 0,.int .u16 0,.int .u16 0,.int .u16 0,.int .u16 0,.int .u16 0,.int .u16 0,.int .u16 0,.int .u16 0,.int .u16 0,.int .u16 0,.int .u16 0,.int .u16 0,.int .u16 0,.int .u16 0,.int .u16 0,.int .u16 0,.int .u16 0,.int .u16 0,.int .u16 0,.int .u16 0,.int .u16 0,.int .u16 0,.int .u16 0,.int .u16 0,.int .u16 0,.int .u16 0,.int .u16 0,.int .u16 0,.int .u16 0,.int .u16 0,.int .u16 0,.int .u16 0,i6 0,i6 0,i6 0,i6 0,i6 0,i6 0,i6 0,i6 0,i6 0,i6 0,i6 0,i6 0,i6 0,i6 0,i6 0,i6 0,i6 0,i6 0,i6 0,i6 0,i6 0,i6 0,i6 0,i6 0,i6 0,i6 0,i6 0,i6 0,i6 0,i6 0,i6 0,i6 0,i6 0,i6 0,i6 0,i6 0,i6 0,i6 0,i6 0,i6 0,i6 0,i6 0,i6 0,i6 0,i6 0,i6 0,i6 0,i6 0,i6 0,i6 0,i6 0,i6 0,i6 0,i6 0,i6 0,i6 0,i6 0,i6 0,i6 0,i6 0,i6 0,i6 0,i6 0,i6 0,vb false,i6 0,vb false]):=by unfold Go.OB.Zero;kernel_rfl
theorem nR:Go.OB.Zero Tryz.prog 128 ([.string (bs []),i6 0,.slice none 0 0,i6 0,i6 0,i6 0,i6 0,.slice none 0 0]):=by unfold Go.OB.Zero;kernel_rfl
theorem vW:Go.OB.Zero Tryz.prog 137 ([i6 0,i6 0,i6 0,.slice none 0 0]):=by unfold Go.OB.Zero;kernel_rfl
theorem aDb:Go.OB.Zero Tryz.prog 139 ([i6 0,i6 0,i6 0,i6 0]):=by unfold Go.OB.Zero;kernel_rfl
theorem zero146:Go.OB.Zero Tryz.prog 146 ([i6 0,.slice none 0 0,i6 0,i6 0]):=by unfold Go.OB.Zero;kernel_rfl
theorem aYx:Go.OB.Zero Tryz.prog 154 ([i6 0,i6 0,i6 0,.string (bs [])]):=by unfold Go.OB.Zero;kernel_rfl
theorem zero158:Go.OB.Zero Tryz.prog 158 ([i6 0,i6 0]):=by unfold Go.OB.Zero;kernel_rfl
theorem aJm:Go.OB.Zero Tryz.prog 197 ([i6 0,i6 0,i6 0,i6 0]):=by unfold Go.OB.Zero;kernel_rfl
theorem kY:Go.OB.Zero Tryz.prog 205 ([i6 0,.string (bs []),.string (bs []),i6 0,i6 0,i6 0,.slice none 0 0]):=by unfold Go.OB.Zero;kernel_rfl
theorem aQf:Go.OB.Zero Tryz.prog 207 ([.string (bs []),.string (bs []),i6 0,.string (bs []),.string (bs []),i6 0,i6 0,i6 0,.slice none 0 0]):=by unfold Go.OB.Zero;kernel_rfl
theorem aIw:Go.OB.Zero Tryz.prog 211 ([.string (bs []),i6 0,.string (bs []),.string (bs []),i6 0,i6 0,i6 0,.slice none 0 0]):=by unfold Go.OB.Zero;kernel_rfl
theorem zero238:Go.OB.Zero Tryz.prog 238 ((Fl.arr 16 rJ).f (Arr.rep 16 (gW.mk 0 (Arr.rep 64 0:Arr 64 Int) (Arr.rep 64 0:Arr 64 Int) false 0 false):Arr 16 gW)):=by unfold Go.OB.Zero;kernel_rfl
theorem uC:Go.OB.Zero Tryz.prog 251 ([i6 0,i6 0,i6 0,i6 0]):=by unfold Go.OB.Zero;kernel_rfl
theorem zero270:Go.OB.Zero Tryz.prog 270 ([.map none]):=by unfold Go.OB.Zero;kernel_rfl
theorem zero282:Go.OB.Zero Tryz.prog 282 ([i6 0,i6 0,i6 0]):=by unfold Go.OB.Zero;kernel_rfl
theorem zero299:Go.OB.Zero Tryz.prog 299 ((Fl.arr 3 (Fl.int .i64)).f (Arr.rep 3 0:Arr 3 Int)):=by unfold Go.OB.Zero;kernel_rfl
theorem zero329:Go.OB.Zero Tryz.prog 329 ([.nilFunc]):=by unfold Go.OB.Zero;kernel_rfl
theorem aZo:Go.OB.Zero Tryz.prog 333 ([vb false,vb false,vb false,vb false,vb false,i6 0,i6 0]):=by unfold Go.OB.Zero;kernel_rfl
theorem vY:Go.OB.Zero Tryz.prog 342 ([i6 0,i6 0,.nilFunc,.nilFunc]):=by unfold Go.OB.Zero;kernel_rfl
theorem zero358:Go.OB.Zero Tryz.prog 358 ([.nilFunc]):=by unfold Go.OB.Zero;kernel_rfl
theorem el3:El Tryz.prog 3 1 8 ([i6 0]):=⟨by kernel_rfl,by kernel_rfl,by kernel_rfl,by decide,by decide⟩
theorem el5:El Tryz.prog 5 1 1 ([.int .u8 0]):=⟨by kernel_rfl,by kernel_rfl,by kernel_rfl,by decide,by decide⟩
theorem el9:El Tryz.prog 9 1 16 ([.string (bs [])]):=⟨by kernel_rfl,by kernel_rfl,by kernel_rfl,by decide,by decide⟩
theorem aMh:El Tryz.prog 98 2 16 ([i6 0,i6 0]):=⟨by kernel_rfl,by kernel_rfl,by kernel_rfl,by decide,by decide⟩
theorem aSx:El Tryz.prog 128 8 104 ([.string (bs []),i6 0,.slice none 0 0,i6 0,i6 0,i6 0,i6 0,.slice none 0 0]):=⟨by kernel_rfl,by kernel_rfl,by kernel_rfl,by decide,by decide⟩
theorem aDi:El Tryz.prog 137 4 48 ([i6 0,i6 0,i6 0,.slice none 0 0]):=⟨by kernel_rfl,by kernel_rfl,by kernel_rfl,by decide,by decide⟩
theorem aSq:El Tryz.prog 139 4 32 ([i6 0,i6 0,i6 0,i6 0]):=⟨by kernel_rfl,by kernel_rfl,by kernel_rfl,by decide,by decide⟩
theorem aFv:El Tryz.prog 166 3 24 ([i6 0,i6 0,i6 0]):=⟨by kernel_rfl,by kernel_rfl,by kernel_rfl,by decide,by decide⟩
theorem aHk:El Tryz.prog 205 7 88 ([i6 0,.string (bs []),.string (bs []),i6 0,i6 0,i6 0,.slice none 0 0]):=⟨by kernel_rfl,by kernel_rfl,by kernel_rfl,by decide,by decide⟩
theorem el207:El Tryz.prog 207 9 120 ([.string (bs []),.string (bs []),i6 0,.string (bs []),.string (bs []),i6 0,i6 0,i6 0,.slice none 0 0]):=⟨by kernel_rfl,by kernel_rfl,by kernel_rfl,by decide,by decide⟩
theorem aRg:El Tryz.prog 211 8 104 ([.string (bs []),i6 0,.string (bs []),.string (bs []),i6 0,i6 0,i6 0,.slice none 0 0]):=⟨by kernel_rfl,by kernel_rfl,by kernel_rfl,by decide,by decide⟩
theorem el282:El Tryz.prog 282 3 24 ([i6 0,i6 0,i6 0]):=⟨by kernel_rfl,by kernel_rfl,by kernel_rfl,by decide,by decide⟩
theorem aDl:El Tryz.prog 328 2 16 ([i6 0,i6 0]):=⟨by kernel_rfl,by kernel_rfl,by kernel_rfl,by decide,by decide⟩
theorem bz56:Tryz.prog.built 56 []=some ([.string (bs []),.string (bs []),.slice none 0 0,i6 0]).toArray:=by kernel_rfl
theorem bz60:Tryz.prog.built 60 []=some ([.slice none 0 0]).toArray:=by kernel_rfl
theorem bz75:Tryz.prog.built 75 []=some ([.slice none 0 0,.slice none 0 0,.slice none 0 0]).toArray:=by kernel_rfl
theorem bz88:Tryz.prog.built 88 []=some ([i6 0,.slice none 0 0]).toArray:=by kernel_rfl
theorem bz128:Tryz.prog.built 128 []=some ([.string (bs []),i6 0,.slice none 0 0,i6 0,i6 0,i6 0,i6 0,.slice none 0 0]).toArray:=by kernel_rfl
theorem bz333:Tryz.prog.built 333 []=some ([vb false,vb false,vb false,vb false,vb false,i6 0,i6 0]).toArray:=by kernel_rfl
theorem aQn (a:Option Addr)(b c:Nat):Tryz.prog.built 24 [(1,.slice a b c)]=some [i6 0,.slice a b c].toArray:=by kernel_rfl
theorem bt88_0 (a:Int):Tryz.prog.built 88 [(0,i6 a)]=some [i6 a,.slice none 0 0].toArray:=by kernel_rfl
theorem aBy (a b:Int):Tryz.prog.built 98 [(0,i6 a),(1,i6 b)]=some [i6 a,i6 b].toArray:=by kernel_rfl
theorem aHy (a b c:Int):Tryz.prog.built 137 [(0,i6 a),(1,i6 b),(2,i6 c)]=some [i6 a,i6 b,i6 c,.slice none 0 0].toArray:=by kernel_rfl
theorem aDm (a b c d:Int):Tryz.prog.built 139 [(0,i6 a),(1,i6 b),(2,i6 c),(3,i6 d)]=some [i6 a,i6 b,i6 c,i6 d].toArray:=by kernel_rfl
theorem bt154_0_1 (a b:Int):Tryz.prog.built 154 [(0,i6 a),(1,i6 b)]=some [i6 a,i6 b,i6 0,.string (bs [])].toArray:=by kernel_rfl
theorem bt156_0 (a:Str):Tryz.prog.built 156 [(0,sb a)]=some [sb a,i6 0,i6 0,i6 0,i6 0,.string (bs []),.slice none 0 0,.slice none 0 0,.slice none 0 0].toArray:=by kernel_rfl
theorem aZi (a:Int):Tryz.prog.built 166 [(0,i6 a)]=some [i6 a,i6 0,i6 0].toArray:=by kernel_rfl
theorem aHl (a b c:Int):Tryz.prog.built 166 [(0,i6 a),(1,i6 b),(2,i6 c)]=some [i6 a,i6 b,i6 c].toArray:=by kernel_rfl
theorem aYt (a:Int):Tryz.prog.built 205 [(0,i6 a)]=some [i6 a,.string (bs []),.string (bs []),i6 0,i6 0,i6 0,.slice none 0 0].toArray:=by kernel_rfl
theorem aGj (a:Int)(b:Str):Tryz.prog.built 205 [(0,i6 a),(1,sb b)]=some [i6 a,sb b,.string (bs []),i6 0,i6 0,i6 0,.slice none 0 0].toArray:=by kernel_rfl
theorem bt205_0_4 (a b:Int):Tryz.prog.built 205 [(0,i6 a),(4,i6 b)]=some [i6 a,.string (bs []),.string (bs []),i6 0,i6 b,i6 0,.slice none 0 0].toArray:=by kernel_rfl
theorem aHp (a b:Int)(c:Option Addr)(d e:Nat):Tryz.prog.built 205 [(0,i6 a),(5,i6 b),(6,.slice c d e)]=some [i6 a,.string (bs []),.string (bs []),i6 0,i6 0,i6 b,.slice c d e].toArray:=by kernel_rfl
theorem wW (a:Int)(b:Option Addr)(c d:Nat):Tryz.prog.built 205 [(0,i6 a),(6,.slice b c d)]=some [i6 a,.string (bs []),.string (bs []),i6 0,i6 0,i6 0,.slice b c d].toArray:=by kernel_rfl
theorem bt207_0_1 (a b:Str):Tryz.prog.built 207 [(0,sb a),(1,sb b)]=some [sb a,sb b,i6 0,.string (bs []),.string (bs []),i6 0,i6 0,i6 0,.slice none 0 0].toArray:=by kernel_rfl
theorem bt211_0 (a:Str):Tryz.prog.built 211 [(0,sb a)]=some [sb a,i6 0,.string (bs []),.string (bs []),i6 0,i6 0,i6 0,.slice none 0 0].toArray:=by kernel_rfl
theorem bt258_0_1 (a b:Int):Tryz.prog.built 258 [(0,i6 a),(1,i6 b)]=some [i6 a,i6 b].toArray:=by kernel_rfl
theorem aTz (a b c:Int):Tryz.prog.built 282 [(0,i6 a),(1,i6 b),(2,i6 c)]=some [i6 a,i6 b,i6 c].toArray:=by kernel_rfl
theorem aSe (a b c:Int):Tryz.prog.built 299 [(0,i6 a),(1,i6 b),(2,i6 c)]=some [i6 a,i6 b,i6 c].toArray:=by kernel_rfl
theorem aAh (a b:Int):Tryz.prog.built 328 [(0,i6 a),(1,i6 b)]=some [i6 a,i6 b].toArray:=by kernel_rfl
theorem bt333_0 (a:Bool):Tryz.prog.built 333 [(0,vb a)]=some [vb a,vb false,vb false,vb false,vb false,i6 0,i6 0].toArray:=by kernel_rfl
theorem aRv (a b c:Bool):Tryz.prog.built 333 [(0,vb a),(1,vb b),(2,vb c)]=some [vb a,vb b,vb c,vb false,vb false,i6 0,i6 0].toArray:=by kernel_rfl
theorem aTe (a b c:Bool):Tryz.prog.built 333 [(0,vb a),(2,vb b),(3,vb c)]=some [vb a,vb false,vb b,vb c,vb false,i6 0,i6 0].toArray:=by kernel_rfl
theorem aRq (a b c:Bool):Tryz.prog.built 333 [(0,vb a),(3,vb b),(4,vb c)]=some [vb a,vb false,vb false,vb b,vb c,i6 0,i6 0].toArray:=by kernel_rfl
theorem aMn (a b:Bool)(c d:Int):Tryz.prog.built 333 [(3,vb a),(4,vb b),(5,i6 c),(6,i6 d)]=some [vb false,vb false,vb false,vb a,vb b,i6 c,i6 d].toArray:=by kernel_rfl
theorem aSl (a:Bool)(b c:Int):Tryz.prog.built 333 [(4,vb a),(5,i6 b),(6,i6 c)]=some [vb false,vb false,vb false,vb false,vb a,i6 b,i6 c].toArray:=by kernel_rfl
theorem aGq (a b:Int):Tryz.prog.built 333 [(5,i6 a),(6,i6 b)]=some [vb false,vb false,vb false,vb false,vb false,i6 a,i6 b].toArray:=by kernel_rfl
theorem aMt (a b c d:Int):Tryz.prog.built 345 [(0,i6 a),(1,i6 b),(2,i6 c),(3,i6 d)]=some [i6 a,i6 b,i6 c,i6 d].toArray:=by kernel_rfl
abbrev gQ (b:Nat):Value:= .pointer (some ⟨b,0,none⟩)
def FAt (t i m:Nat):Prop:= ∀{ρ:Env}{w:World}{d:Option Tmp}{x:Operand}{ty:TypeId}{pos:String}{af:Array Edge}{g:Option (Nat×Bool)}{b o:Nat} (_:ev ρ x= .pointer (some ⟨b,o,none⟩)),Do Tryz.prog ⟨d,.fieldAddr t x i,ty,pos,af,g⟩ ρ w (.pointer (some ⟨b,o+m,none⟩)) w
theorem faO {t i m:Nat}(n:Nat)(h:aLk Tryz.prog t i=some (m,some n):=by kernel_rfl)(hn:n≠0:=by decide):FAt t i m:=λhx=>aMx h hn hx
theorem aQc:FAt 24 0 0:=faO 1
theorem kN:FAt 24 1 1:=faO 1
theorem uS:FAt 28 0 0:=faO 2
theorem nH:FAt 28 1 2:=faO 1
theorem nX:FAt 28 2 3:=faO 1
theorem aBe:FAt 56 0 0:=faO 1
theorem aLs:FAt 56 1 1:=faO 1
theorem aLq:FAt 56 2 2:=faO 1
theorem aQj:FAt 56 3 3:=faO 1
theorem aKi:FAt 60 0 0:=faO 1
theorem aDz:FAt 75 0 0:=faO 1
theorem aEd:FAt 75 1 1:=faO 1
theorem qP:FAt 75 2 2:=faO 1
theorem aDt:FAt 88 1 1:=faO 1
theorem aAp:FAt 98 0 0:=faO 1
theorem aGu:FAt 98 1 1:=faO 1
theorem dR:FAt 116 0 0:=faO 1
theorem rO:FAt 116 1 1:=faO 64
theorem aBh:FAt 116 2 65:=faO 64
theorem vN:FAt 116 3 129:=faO 1
theorem aJf:FAt 116 4 130:=faO 1
theorem aYi:FAt 116 5 131:=faO 1
theorem uF:FAt 128 0 0:=faO 1
theorem jZ:FAt 128 1 1:=faO 1
theorem mM:FAt 128 2 2:=faO 1
theorem aJh:FAt 128 3 3:=faO 1
theorem aCn:FAt 128 4 4:=faO 1
theorem nU:FAt 128 5 5:=faO 1
theorem rP:FAt 128 6 6:=faO 1
theorem mJ:FAt 128 7 7:=faO 1
theorem aQt:FAt 137 0 0:=faO 1
theorem fa137_1:FAt 137 1 1:=faO 1
theorem aZq:FAt 137 2 2:=faO 1
theorem mD:FAt 137 3 3:=faO 1
theorem aAv:FAt 139 0 0:=faO 1
theorem aAt:FAt 139 1 1:=faO 1
theorem aFd:FAt 139 2 2:=faO 1
theorem aCr:FAt 139 3 3:=faO 1
theorem aXw:FAt 146 0 0:=faO 1
theorem pK:FAt 146 1 1:=faO 1
theorem aJd:FAt 146 2 2:=faO 1
theorem aIr:FAt 146 3 3:=faO 1
theorem pM:FAt 154 0 0:=faO 1
theorem fa154_2:FAt 154 2 2:=faO 1
theorem aBj:FAt 154 3 3:=faO 1
theorem tZ:FAt 156 0 0:=faO 1
theorem jA:FAt 156 1 1:=faO 1
theorem bK:FAt 156 2 2:=faO 4
theorem aDd:FAt 156 3 6:=faO 3
theorem fa158_0:FAt 158 0 0:=faO 1
theorem aZy:FAt 158 1 1:=faO 1
theorem vV:FAt 197 0 0:=faO 1
theorem vP:FAt 197 1 1:=faO 1
theorem aFq:FAt 197 2 2:=faO 1
theorem aFp:FAt 197 3 3:=faO 1
theorem qO:FAt 205 0 0:=faO 1
theorem aBa:FAt 205 1 1:=faO 1
theorem aIu:FAt 205 2 2:=faO 1
theorem aIt:FAt 205 3 3:=faO 1
theorem aFl:FAt 205 4 4:=faO 1
theorem aIv:FAt 205 5 5:=faO 1
theorem wJ:FAt 205 6 6:=faO 1
theorem fa207_0:FAt 207 0 0:=faO 1
theorem fa207_1:FAt 207 1 1:=faO 1
theorem aJk:FAt 207 2 2:=faO 7
theorem aBc:FAt 211 0 0:=faO 1
theorem aEt:FAt 211 1 1:=faO 7
theorem aCz:FAt 251 0 0:=faO 1
theorem aCs:FAt 251 1 1:=faO 1
theorem aCp:FAt 251 2 2:=faO 1
theorem aDf:FAt 251 3 3:=faO 1
theorem aYn:FAt 333 0 0:=faO 1
theorem aYe:FAt 333 1 1:=faO 1
theorem aYq:FAt 333 2 2:=faO 1
theorem aYp:FAt 333 3 3:=faO 1
theorem bAe:FAt 333 4 4:=faO 1
theorem fa333_5:FAt 333 5 5:=faO 1
theorem fa333_6:FAt 333 6 6:=faO 1
theorem eqf3:EqF Tryz.prog 3 (Fl.int .i64) 1:=EqF.int Tryz.underlying3
theorem eqf299:EqF Tryz.prog 299 (Fl.arr 3 (Fl.int .i64)) 2:=EqF.arr Tryz.underlying299 (by unfold Sz;kernel_rfl) (by unfold Sz;kernel_rfl) eqf3
theorem eqf98:EqF Tryz.prog 98 cO 2:=EqF.struct (k:=1) (λx y h=>by cases x;cases y;simp_all) Tryz.underlying98 (by kernel_rfl) (by unfold Sz;kernel_rfl) ((aLr.cons rfl (by decide) (eqf3.up (by decide)) (aLr.one rfl (by decide) (eqf3.up (by decide)))))
theorem eqf282:EqF Tryz.prog 282 dN 2:=EqF.struct (k:=1) (λx y h=>by cases x;cases y;simp_all) Tryz.underlying282 (by kernel_rfl) (by unfold Sz;kernel_rfl) ((aLr.cons rfl (by decide) (eqf3.up (by decide)) ((aLr.cons rfl (by decide) (eqf3.up (by decide)) (aLr.one rfl (by decide) (eqf3.up (by decide)))))))
theorem wk98:WK Tryz.prog 98 cO:=⟨⟨_,Tryz.underlying98,λ_ _=>rfl⟩,λb a w=>by kernel_rfl,⟨_,by decide,eqf98⟩,aBo,sK,λa=>by exact sb_of rfl⟩
theorem wk282:WK Tryz.prog 282 dN:=⟨⟨_,Tryz.underlying282,λ_ _=>rfl⟩,λb a w=>by kernel_rfl,⟨_,by decide,eqf282⟩,aPt,aNx,λa=>by exact sb_of rfl⟩
theorem wk299:WK Tryz.prog 299 (Fl.arr 3 (Fl.int .i64)):=⟨⟨_,Tryz.underlying299,λ_ _=>rfl⟩,λb a w=>by obtain⟨x,y,z,h,rfl⟩:=aRy a;kernel_rfl,⟨_,by decide,eqf299⟩,aVf,aYh,λa=>by obtain⟨x,y,z,h,rfl⟩:=aRy a;exact sb_of rfl⟩
abbrev dD:=f1 Rp.str
abbrev aS:=f1 jI
abbrev jQ:=f1 dF
abbrev nT:=f1 qN
abbrev qL:=f1 aBb
abbrev uQ:=f1 eG
abbrev wL:=f1 fK
abbrev aBs:=f1 rZ
abbrev aId:=f1 eY
abbrev aLd:=f1 fV
abbrev aNc:=f1 (Rp.int .i64)
section
variable {O S:List Nat}{v w:World}{a b c d e f g i j k l m n:Th}
abbrev hh (p:Prop):Prop:=p->p
theorem un1:hh (Hd O v w S [a]):=id
theorem un2:hh (Hd O v w S [a,b]):=id
theorem un3:hh (Hd O v w S [a,b,c]):=id
theorem un4:hh (Hd O v w S [a,b,c,d]):=id
theorem un5:hh (Hd O v w S [a,b,c,d,e]):=id
theorem un6:hh (Hd O v w S [a,b,c,d,e,f]):=id
theorem un7:hh (Hd O v w S [a,b,c,d,e,f,g]):=id
theorem un8:hh (Hd O v w S [a,b,c,d,e,f,g,i]):=id
theorem un9:hh (Hd O v w S [a,b,c,d,e,f,g,i,j]):=id
theorem qY:hh (Hd O v w S [a,b,c,d,e,f,g,i,j,k]):=id
theorem aPd:hh (Hd O v w S [a,b,c,d,e,f,g,i,j,k,l]):=id
theorem un12:hh (Hd O v w S [a,b,c,d,e,f,g,i,j,k,l,m]):=id
theorem un13:hh (Hd O v w S [a,b,c,d,e,f,g,i,j,k,l,m,n]):=id
end
section
variable {P:Program}{N:Nat}{ops:Array Oper}{Q:Exit->Env->World->Prop}{rest:List Oper}{ρ:Env}{w:World}{d f:Nat}{t u ty tz:TypeId}{x y:Operand}{pos qos:String}{af bf:Array Edge}{g h:Option (Nat×Bool)}{b o m i:Nat}
theorem nf (hx:ev ρ x= .pointer (some ⟨b,o,none⟩))(fa:FAt t i m)(n:RL Tryz.prog N ops Q rest (upd (upd ρ d (.pointer (some ⟨b,o,none⟩))) f (.pointer (some ⟨b,o+m,none⟩))) w)(hy:ev (upd ρ d (.pointer (some ⟨b,o,none⟩))) y= .pointer (some ⟨b,o,none⟩):=by exact rfl)(hw:fP N ops ρ ⟨some d,.nilCheck x,ty,pos,af,g⟩=true:=by exact rfl)(hd:Nat.blt d N=true:=by exact rfl)(hv:fP N ops (upd ρ d (.pointer (some ⟨b,o,none⟩))) ⟨some f,.fieldAddr t y i,tz,qos,bf,h⟩=true:=by exact rfl)(hf:Nat.blt f N=true:=by exact rfl):RL Tryz.prog N ops Q (⟨some d,.nilCheck x,ty,pos,af,g⟩::⟨some f,.fieldAddr t y i,tz,qos,bf,h⟩::rest) ρ w:=zH (xO hx) (zH (fa hy) n hv hf) hw hd
theorem Xn {I:World->Prop}{κ:List MxM.Kd}{K:MxM.Mm->Env->World->Prop}{k q:Nat}{M:MxM.Mm}{σ:List Nat}(hx:ev ρ x= .pointer (some ⟨b,o,none⟩))(fa:FAt t i m)(n:MxM.XL Tryz.prog I N ops κ K M σ rest (upd (upd ρ d (.pointer (some ⟨b,o,none⟩))) f (.pointer (some ⟨b,o+m,none⟩))) w)(hy:ev (upd ρ d (.pointer (some ⟨b,o,none⟩))) y= .pointer (some ⟨b,o,none⟩):=by exact rfl)(hk:MxM.kdOf κ k= .pure:=by exact rfl)(hq:MxM.kdOf κ q= .pure:=by exact rfl)(hw:fP N ops ρ ⟨some d,.nilCheck x,ty,pos,af,g⟩=true:=by exact rfl)(hd:Nat.blt d N=true:=by exact rfl)(hv:fP N ops (upd ρ d (.pointer (some ⟨b,o,none⟩))) ⟨some f,.fieldAddr t y i,tz,qos,bf,h⟩=true:=by exact rfl)(hf:Nat.blt f N=true:=by exact rfl):MxM.XL Tryz.prog I N ops κ K M (k::q::σ) (⟨some d,.nilCheck x,ty,pos,af,g⟩::⟨some f,.fieldAddr t y i,tz,qos,bf,h⟩::rest) ρ w:=XQ (xO hx) (XQ (fa hy) n hq hv hf) hk hw hd
theorem nJ {I:World->Prop}{κ:List MxM.Kd}{K:MxM.Mm->Env->World->Prop}{M:MxM.Mm}{σ O S:List Nat}{v u:World}{l r:List Th}(G:Hd O v u S r)(H:Hd O u w (bks r) l)(n: ∀a,Hd O v a S l->K M ρ a):MxM.XL P I N ops κ K M σ [] ρ w:=MxM.XL_nil λa s=>n a (G.rj (H.Z s))
end
theorem _root_.Go.Lf.Hd.im {O S:List Nat}{v w:World}{l:List Th}(H:Hd O v w S l)(i:Nat){it:Th}(h:l[i]? =some it):it.holds (frees O l) w:=H.V h
theorem _root_.Go.Lf.Hm.im {n:Nat}{A:Nat->Prop}{O S:List Nat}{v w:World}{l:List Th}(H:Hm n A O v w S l)(i:Nat){it:Th}(h:l[i]? =some it):it.holds (frm O l v) w:=H.V h
theorem p1z {P:Program}{R:Ending->World->Prop}{ρ:Env}{w:World}{rs:Array ResultVar}{t:Tmp}{v:Value}(h:R (.returned v) w)(hr:rs= #[.tmp t]:=by exact rfl)(a:ρ t=v:=by exact rfl):aAb P rs R .ret ρ w:=aKy hr a h
theorem en7:En 7:=fD Tryz.func7
theorem en48:En 48:=fD Tryz.func48
theorem en50:En 50:=fD Tryz.func50
theorem en52:En 52:=fD Tryz.func52
theorem en54:En 54:=fD Tryz.func54
theorem en55:En 55:=fD Tryz.func55
theorem en57:En 57:=fD Tryz.func57
theorem en58:En 58:=fD Tryz.func58
theorem en60:En 60:=fD Tryz.func60
theorem en63:En 63:=fD Tryz.func63
theorem en64:En 64:=fD Tryz.func64
theorem en68:En 68:=fD Tryz.func68
theorem en73:En 73:=fD Tryz.func73
theorem en89:En 89:=fD Tryz.func89
theorem en94:En 94:=fD Tryz.func94
theorem en96:En 96:=fD Tryz.func96
theorem en98:En 98:=fD Tryz.func98
theorem en102:En 102:=fD Tryz.func102
theorem en106:En 106:=fD Tryz.func106
theorem aDk:En 107:=fD Tryz.func107
theorem en108:En 108:=fD Tryz.func108
theorem aFc:En 111:=fD Tryz.func111
theorem en112:En 112:=fD Tryz.func112
theorem aXu:En 113:=fD Tryz.func113
theorem en114:En 114:=fD Tryz.func114
theorem aDo:En 115:=fD Tryz.func115
theorem en117:En 117:=fD Tryz.func117
theorem en118:En 118:=fD Tryz.func118
theorem en121:En 121:=fD Tryz.func121
theorem en123:En 123:=fD Tryz.func123
theorem aDq:En 125:=fD Tryz.func125
theorem aLj:En 126:=fD Tryz.func126
theorem aKj:En 127:=fD Tryz.func127
theorem aZr:En 128:=fD Tryz.func128
theorem en129:En 129:=fD Tryz.func129
theorem aIb:En 130:=fD Tryz.func130
theorem aOp:En 131:=fD Tryz.func131
theorem aTy:En 132:=fD Tryz.func132
theorem en135:En 135:=fD Tryz.func135
theorem aHz:En 153:=fD Tryz.func153
theorem en156:En 156:=fD Tryz.func156
theorem en157:En 157:=fD Tryz.func157
theorem en158:En 158:=fD Tryz.func158
theorem en159:En 159:=fD Tryz.func159
theorem en162:En 162:=fD Tryz.func162
theorem en166:En 166:=fD Tryz.func166
theorem en179:En 179:=fD Tryz.func179
theorem en186:En 186:=fD Tryz.func186
theorem en191:En 191:=fD Tryz.func191
theorem en194:En 194:=fD Tryz.func194
theorem en195:En 195:=fD Tryz.func195
theorem en196:En 196:=fD Tryz.func196
theorem en197:En 197:=fD Tryz.func197
theorem en198:En 198:=fD Tryz.func198
theorem aNp:En 199:=fD Tryz.func199
theorem en200:En 200:=fD Tryz.func200
theorem en201:En 201:=fD Tryz.func201
theorem en202:En 202:=fD Tryz.func202
theorem aHt:En 203:=fD Tryz.func203
theorem en205:En 205:=fD Tryz.func205
theorem en210:En 210:=fD Tryz.func210
theorem en222:En 222:=fD Tryz.func222
theorem en223:En 223:=fD Tryz.func223
theorem en225:En 225:=fD Tryz.func225
theorem en229:En 229:=fD Tryz.func229
theorem bAa:En 236:=fD Tryz.func236
theorem en245:En 245:=fD Tryz.func245
theorem aOo:En 248:=fD Tryz.func248
theorem aUa:En 249:=fD Tryz.func249
theorem en250:En 250:=fD Tryz.func250
theorem en252:En 252:=fD Tryz.func252
theorem aNl:En 263:=fD Tryz.func263
theorem en272:En 272:=fD Tryz.func272
theorem en273:En 273:=fD Tryz.func273
theorem en276:En 276:=fD Tryz.func276
theorem en309:En 309:=fD Tryz.func309
theorem en310:En 310:=fD Tryz.func310
theorem mixed:Tryz.prog.follows .mixedOrders=true:=by kernel_rfl
theorem aUg {a:Option gI}{b:Int}{c:Option Addr}{r:Unit}(d:Faf a b=some r)(_:Hd O w w S [.fz (.pt eP c a)]):
  Rt 130 [.pointer c,i6 b] (.tuple #[]) w O S []:=by
 unfold Faf at d;refine CW 12 Tryz.func130 ?_;cases d
theorem Fhgw {a:Str}{b r:Int}(c:Fhg a b=some r)(H:Hd O w w S []):
  Rt 277 [sb a,.int .u8 b] (i6 r) w O S []:=by
 refine CW 8 Tryz.func277 ?_;refine SR<|zB (i6 0)<|RM<|SR<|zA (sb a)<|zA (.int .u8 b)<|bE c λd e c=>zH (E.Fkx e Z)<|zB (i6 d)<|RM ?_;cases c;exact zI<|p1z ⟨Z,H.U []⟩
theorem Fjrw {a:Str}{b r:Int}(c:Fjr a b=some r)(H:Hd O w w S []):
  Rt 241 [sb a,.int .u8 b] (i6 r) w O S []:=by
 refine CW 8 Tryz.func241 ?_;refine SR<|zB (i6 0)<|RM<|SR<|zA (sb a)<|zA (.int .u8 b)<|bE c λd e c=>RC (fD Tryz.func277) (Fhgw e (H.W [] [])) H λf H=>zB (i6 d)<|RM ?_;cases c;exact zI<|p1z ⟨Z,H.U []⟩
theorem Fhcw {d r:gI}{f:Nat}{g h i:Value}(c:Fhc d=some r)(H:Hd O w w S [.own Rp.str g 9 d.r.Phases,.own fK h 207 d.r.Moves,.own eG i 211 d.r.Rules,.blk f [sb d.text,i6 d.at_,i6 d.now.kind,i6 d.now.at_,i6 d.now.n,sb d.now.text,g,h,i] 156]):
  Cl 190 [gQ f] w λe j=> ∃u9 m o,e= .returned (.tuple #[])/\Hd O w j S [.own Rp.str u9 9 r.r.Phases,.own fK m 207 r.r.Moves,.own eG o 211 r.r.Rules,.blk f [sb r.text,i6 r.at_,i6 r.now.kind,i6 r.now.at_,i6 r.now.n,sb r.now.text,u9,m,o] 156]:=by
 unfold Fhc at c;refine CW 66 Tryz.func190 ?_;refine zJ<|lo c H (rg [2,64]) (λx (y:Unit)=>[]) (λx y=>[.blk f [sb d.text,i6 x,i6 d.now.kind,i6 d.now.at_,i6 d.now.n,sb d.now.text,g,h,i] 156]) [1,2,3,0] () (H.U [0,1,2,3]) ?_;clear H c;rintro _ k _ ρ _ H c;have H:=un4 H;refine SQ<|SQ ?_;have s:=H;have H:=H.rb;have ad:=H;refine xG H (rg [0,10]) (kz [0,0,0,1,0,0,0,1,0,0]) mixed ?_;refine XM (gQ f)<|Xn Z jA<|XR gX H 3 1 Z Z<|XM (gQ f)<|Xn Z tZ<|XR dE H 3 0 Z Z<|lE c λt u c=>XQ (yG (aH (s1:=d.text) u9 Z) (congrArg (Value.int .i64) u))<|lE c λ_ z c=>XQ (wF (aEj (a:=k) (b:=t) Z Z) z)<|nJ s H λaf H=>?_;refine zG<|KN<|WJ c (λc=>WZ<|zJ<|SQ ?_) λc=>?_;have A:=H;have H:=H.rb;have ag:=H;refine xG H (rg [0,9]) (kz [0,0,0,1,0,0,0,1,0]) mixed ?_;refine XM (gQ f)<|Xn Z tZ<|XR dE H 3 0 Z Z<|XM (gQ f)<|Xn Z jA<|XR gX H 3 1 Z Z<|bE c λ_ B c=>XQ (qW (s1:=d.text) (q:=k) u9 Z Z B)<|nJ A H λ_ H=>?_;refine zG<|KN<|zJ<|bE c λC c D=>sJ H (rg [22,5]) [(22,vb C)] ?_ ?_;refine SR<|eQ c λE c=>zB (vb E)<|RM<|WJ c ?_ ?_<;>intro c;cases c;exact js<|mt () (H.U [0,1,2,3]);refine SR<|eQ c λF c=>zB (vb F)<|RM<|WJ c ?_ ?_<;>intro c;cases c;exact js<|mt () (H.U [0,1,2,3]);refine SR<|eQ c λG c=>zB (vb G)<|RM<|WJ c ?_ ?_<;>intro c;cases c;exact js<|mt () (H.U [0,1,2,3]);refine zD<|eQ c λI c=>zB (vb I) ?_;cases c;exact jn<|mt () (H.U [0,1,2,3]);rintro _ ρ _ H
 have c:=D;refine WJ c ?_ ?_<;>intro c;exact zD<|zA (gQ f)<|nf Z jA<|Ld gX H 3 1 Z Z<|fE c λJ c=>nf Z jA<|xu (yR H 3 Z sz3 Z (v:=i6 J) Z Z Z) λ_ H=>yL<|zO<|zO<|zG<|me c () (H.U [0,1,2,3]);refine SR<|eQ c λK c=>zB (vb K)<|RM<|WJ c (λc=>SQ ?_) λc=>?_;have L:=H;have H:=H.rb;have al:=H;refine xG H (rg [0,11]) (kz [0,0,0,1,0,0,0,1,0,4,0]) mixed ?_;refine XM (gQ f)<|Xn Z tZ<|XR dE H 3 0 Z Z<|XM (gQ f)<|Xn Z jA<|XR gX H 3 1 Z Z<|bE c λ_ M c=>XQ (aJw (s1:=d.text) u9 Z Z M) ?_;have N:=H;refine bE c λl P c=>MxM.XL_fcall oS Z Z Z (v:=i6 l) (λj Q=>yY (fD Tryz.func241) Z) (λj Q=>xU (Fjrw P (Hd.fresh0 j))) ?_;have H:=N;refine XQ (yO (v:=i6 l) Z)<|nJ L H λ_ H=>?_;refine zG<|KN<|bE c λp c R=>sJ H (rg [2,1,46,12]) [(2,i6 p)] ?_ ?_;refine SR<|zA (i6 l)<|fF c λ_ c=>RM<|WJ c ?_ ?_<;>intro c;have T:=H;have H:=H.rb;have ap:=H;refine xG H (rg [0,11]) (kz [0,0,0,1,0,0,0,0,1,0,0]) mixed ?_;refine XM (gQ f)<|Xn Z tZ<|XR dE H 3 0 Z Z<|lE c λU V c=>XQ (yG (aH (s1:=d.text) u9 Z) (congrArg (Value.int .i64) V))<|XM (gQ f)<|Xn Z jA<|XR gX H 3 1 Z Z<|lE c λX Y c=>XQ (jM (a:=U) (b:=k) Z Z Y)<|XQ (yO (v:=i6 X) Z)<|nJ T H λ_ H=>?_;cases c;exact zG<|mt () (H.U [0,1,2,3]);cases c;exact js<|mt () (H.U [0,1,2,3]);rintro _ ρ _ H;have c:=R;exact zD<|zA (gQ f)<|nf Z jA<|Ld gX H 3 1 Z Z<|zA (i6 p)<|fE c λaa c=>nf Z jA<|xu (yR H 3 Z sz3 Z (v:=i6 aa) Z Z Z) λ_ H=>yL<|zO<|zO<|zG<|me c () (H.U [0,1,2,3])
 cases c;exact zI<|zN<|zN<|zF<|zN<|aYs Z ⟨g,h,i,Z,H.U [0,1,2,3]⟩;cases c;exact zY<|zM<|zM<|zQ<|qC Z ⟨g,h,i,Z,H.U [0,1,2,3]⟩
theorem Fcaw {b:Int}{r:Bool}(a:Fca b=some r)(H:Hd O w w S []):
  Rt 191 [.int .u8 b] (vb r) w O S []:=by
 refine CW 21 Tryz.func191 ?_;refine SR<|zB (vb false)<|RM<|bE a λe a f=>sJ H (rg [2,19]) [(2,vb e)] ?_ ?_;refine zD<|zA (.int .u8 b)<|mQ a λl a=>bE a λg a h=>yV 4 [5,6,7,8] [(8,vb g)] (λwl=>Hd O w wl S []) ?_ ?_;refine RJ a (λa=>zA (.int .u8 b)<|sU a λi a=>pt (vb i) ?_) λa=>?_;cases a;exact jn<|meet ⟨(yB Z yC),H.U []⟩;refine zL<|zL<|pf (vb false) ?_;cases a;exact jn<|meet ⟨(yB Z yC),H.U []⟩;rintro ρ m H;have a:=h;refine bE a λj a k=>yV 8 [9,10,11,12,13,14,15,16] [(16,vb j)] (λwl=>Hd O w wl S []) ?_ ?_;refine RJ a (λa=>zL<|zL<|zL<|zL<|zL<|zL<|pt (vb true) ?_) λa=>?_;cases a;exact jn<|meet ⟨(yB Z yC),H.U []⟩;refine zA (.int .u8 b)<|mQ a λn a=>RJ a (λa=>zA (.int .u8 b)<|sU a λc a=>pt (vb c)<|pf (vb c) ?_) λa=>?_;cases a;exact jn<|meet ⟨(yB Z yC),H.U []⟩;refine zL<|zL<|pf (vb false)<|pf (vb false) ?_;cases a;exact jn<|meet ⟨(yB Z yC),H.U []⟩;rintro ρ o H;have a:=k;refine RJ a (λa=>zL<|zL<|pt (vb true)<|zB (vb true) ?_) λa=>?_;cases a;exact jn<|mt () (H.U []);refine zA (.int .u8 b)<|eQ a λd a=>pf (vb d)<|zB (vb d) ?_;cases a;exact jn<|mt () (H.U []);rintro _ ρ _ H;have a:=f;cases a;exact zI<|p1z ⟨Z,H.U []⟩
theorem Fb8w {b:Str}{r:Bool}(a:Fb8 b=some r)(H:Hd O w w S []):
  Rt 200 [sb b] (vb r) w O S []:=by
 refine CW 21 Tryz.func200 ?_;refine SR<|zB (vb false)<|RM<|SQ<|SR<|zA (sb b)<|RM<|zJ<|bE a λc a d=>sJ H (rg [4,17]) [(4,vb c)] ?_ ?_;refine SR<|RLb a (xJ (s1:=b) (s2:=[112,104,97,115,101]) Z Z) λe a=>zB (vb e)<|RM<|WJ a ?_ ?_<;>intro a;cases a;exact js<|mt () (H.U []);refine SR<|RLb a (xJ (s1:=b) (s2:=[109,111,118,101]) Z Z) λf a=>zB (vb f)<|RM<|WJ a ?_ ?_<;>intro a;cases a;exact js<|mt () (H.U []);refine SR<|RLb a (xJ (s1:=b) (s2:=[114,117,108,101]) Z Z) λg a=>zB (vb g)<|RM<|WJ a ?_ ?_<;>intro a;cases a;exact js<|mt () (H.U []);refine SR<|RLb a (xJ (s1:=b) (s2:=[105,102]) Z Z) λh a=>zB (vb h)<|RM<|WJ a ?_ ?_<;>intro a;cases a;exact js<|mt () (H.U []);refine SR<|RLb a (xJ (s1:=b) (s2:=[111,114]) Z Z) λi a=>zB (vb i)<|RM<|WJ a ?_ ?_<;>intro a;cases a;exact js<|mt () (H.U []);refine SR<|RLb a (xJ (s1:=b) (s2:=[97,110,100]) Z Z) λj a=>zB (vb j)<|RM<|WJ a ?_ ?_<;>intro a;cases a;exact js<|mt () (H.U []);refine SR<|RLb a (xJ (s1:=b) (s2:=[116,114,117,101]) Z Z) λk a=>zB (vb k)<|RM<|WJ a ?_ ?_<;>intro a;cases a;exact js<|mt () (H.U []);refine SR<|RLb a (xJ (s1:=b) (s2:=[102,97,108,115,101]) Z Z) λl a=>zB (vb l)<|RM<|WJ a ?_ ?_<;>intro a;cases a;exact js<|mt () (H.U []);refine SR<|RLb a (xJ (s1:=b) (s2:=[115,116,101,97,100,121]) Z Z) λm a=>zB (vb m)<|RM<|WJ a ?_ ?_<;>intro a;cases a
 exact js<|mt () (H.U []);refine SR<|RLb a (xJ (s1:=b) (s2:=[110,111,116]) Z Z) λn a=>zB (vb n)<|RM<|WJ a ?_ ?_<;>intro a;cases a;exact js<|mt () (H.U []);refine SR<|RLb a (xJ (s1:=b) (s2:=[102,111,114]) Z Z) λo a=>zB (vb o)<|RM<|WJ a ?_ ?_<;>intro a;cases a;exact js<|mt () (H.U []);refine SR<|RLb a (xJ (s1:=b) (s2:=[119,105,116,104,105,110]) Z Z) λp a=>zB (vb p)<|RM<|WJ a ?_ ?_<;>intro a;cases a;exact js<|mt () (H.U []);refine SR<|RLb a (xJ (s1:=b) (s2:=[99,111,117,110,116]) Z Z) λq a=>zB (vb q)<|RM<|WJ a ?_ ?_<;>intro a;cases a;exact js<|mt () (H.U []);refine SR<|RLb a (xJ (s1:=b) (s2:=[111,102]) Z Z) λs a=>zB (vb s)<|RM<|WJ a ?_ ?_<;>intro a;cases a;exact js<|mt () (H.U []);refine SR<|RLb a (xJ (s1:=b) (s2:=[114,105,115,101,115]) Z Z) λt a=>zB (vb t)<|RM<|WJ a ?_ ?_<;>intro a;cases a;exact js<|mt () (H.U []);refine zD<|RLb a (xJ (s1:=b) (s2:=[115,105,110,99,101]) Z Z) λu a=>zB (vb u) ?_;cases a;exact jn<|mt () (H.U []);rintro _ ρ v H;have a:=d;refine WJ a (λa=>SR<|zB (vb true)<|RM ?_) λa=>?_;cases a;exact zI<|zN<|zF<|p1z ⟨Z,H.U []⟩;refine yE<|zO<|zG<|KN<|SR<|zB (vb false)<|RM ?_;cases a;exact zI<|p1z ⟨Z,H.U []⟩
theorem Fajw {b c d:Int}{r:Bool}(a:Faj b c d=some r)(H:Hd O w w S []):
  Rt 199 [i6 b,i6 c,i6 d] (vb r) w O S []:=by
 refine CW 15 Tryz.func199 ?_;refine SR<|zB (vb false)<|RM<|bE a λf a g=>sJ H (rg [6,9]) [(6,vb f)] ?_ ?_;refine zD<|zA (i6 b)<|zA (i6 c)<|mQ a λh a=>RJ a (λa=>zA (i6 b)<|zA (i6 d)<|sU a λe a=>pt (vb e)<|zB (vb e) ?_) λa=>?_;cases a;exact jn<|mt () (H.U []);refine zL<|zL<|zL<|pf (vb false)<|zB (vb false) ?_;cases a;exact jn<|mt () (H.U []);rintro _ ρ i H;have a:=g;cases a;exact zI<|p1z ⟨Z,H.U []⟩
theorem Fakw {b:Str}{r:Bool}(a:Fak b=some r)(H:Hd O w w S []):
  Rt 131 [sb b] (vb r) w O S []:=by
 refine CW 33 Tryz.func131 ?_;refine SR<|zB (vb false)<|RM<|SQ<|bE a λd a e=>sJ H (rg [4,18]) [(21,vb d)] ?_ ?_;refine zD<|zA (sb b)<|RLi a (aH (s1:=b) u9 Z) λv a=>bE a λ_ f a=>RC aNp (Fajw f (H.W [] [])) H λA H=>dB a λB a=>bE a λg a h=>yV 5 [8,9,10,11,12] [(12,vb g)] (λwl=>Hd O w wl S []) ?_ ?_;refine RJ a (λa=>zL<|zL<|zL<|pt (vb true) ?_) λa=>?_;cases a;exact jn<|meet ⟨(yB Z yC),H.U []⟩;refine zA (sb b)<|bE a λC i a=>zH (qW (s1:=b) (q:=0) u9 Z Z i)<|fF a λj a=>pf (vb j) ?_;cases a;exact jn<|meet ⟨(yB Z yC),H.U []⟩;rintro ρ D H;have a:=h;refine bE a λk a l=>yV 5 [13,14,15,16,17] [(17,vb k)] (λwl=>Hd O w wl S []) ?_ ?_;refine RJ a (λa=>zL<|zL<|zL<|pt (vb true) ?_) λa=>?_;cases a;exact jn<|meet ⟨(yB Z yC),H.U []⟩;refine zA (sb b)<|bE a λ_ m a=>zH (qW (s1:=b) (q:=0) u9 Z Z m)<|dS a λn a=>pf (vb n) ?_;cases a;exact jn<|meet ⟨(yB Z yC),H.U []⟩;rintro ρ _ H;have a:=l;refine RJ a (λa=>zL<|zL<|pt (vb true) ?_) λa=>?_;cases a;exact jn<|mt () (H.U []);refine zA (sb b)<|bE a λo p a=>RC en200 (Fb8w p (H.W [] [])) H λ_ H=>pf (vb o) ?_;cases a;exact jn<|mt () (H.U []);rintro _ ρ _ H;have a:=e;refine WJ a (λa=>SR<|zB (vb false)<|RM ?_) λa=>?_;cases a;exact zI<|zF<|p1z ⟨Z,H.U []⟩;refine WZ<|jk a H (rg [2,2,22,11]) (λx (y:Unit)=>[]) (λx y=>[]) [] (λ_ a=>?_) ?_;refine SR<|zA (sb b)<|RLi a (aH (s1:=b) u9 Z) λ_ a=>zA (i6 0)<|RM<|zJ<|lo a H (rg [2,2,24,9]) (λx (y:Unit)=>[(24,i6 x)]) (λx y=>[]) [] () (H.U []) ?_
 clear H a;rintro _ c _ ρ _ H a;refine SR<|fF a λN a=>RM<|SQ<|WJ a (λa=>WZ<|SQ<|zJ<|SR<|zA (i6 c)<|zB (i6 c)<|RM<|SR<|zA (sb b)<|zA (i6 c)<|bE a λP s a=>zH (qW (s1:=b) (q:=c) u9 Z Z s)<|bE a λQ t a=>RC en191 (Fcaw t (H.W [] [])) H λ_ H=>dB a λT a=>RM<|WJ a (λa=>SR<|zB (vb false)<|RM ?_) λa=>?_) λa=>?_;cases a;exact zI<|zN<|zF<|zF<|zN<|zF<|p1z ⟨Z,H.U []⟩;exact yE<|zO<|zG<|KN<|zD<|fE a λu a=>zA (i6 u)<|jn<|me a () (H.U []);exact zY<|zM<|zM<|zQ<|zG<|me a () (H.U []);rintro _ _ ρ U H a;refine SR<|zB (vb true)<|RM ?_;cases a;exact zI<|p1z ⟨Z,H.U []⟩
theorem Fgyw {c b:Str}{r:Bool}(a:Fgy c b=some r)(H:Hd O w w S []):
  Rt 245 [sb c,sb b] (vb r) w O S []:=by
 refine CW 18 Tryz.func245 ?_;refine SR<|zB (vb false)<|RM<|bE a λe a f=>sJ H (rg [4,14]) [(4,vb e)] ?_ ?_;refine zD<|zA (sb c)<|RLi a (aH (s1:=c) u9 Z) λi a=>zA (sb b)<|RLi a (aH (s1:=b) u9 Z) λj a=>mQ a λk a=>RJ a (λa=>zA (sb c)<|zA (sb b)<|RLi a (aH (s1:=b) u9 Z) λl a=>bE a λg h a=>zH (Do_cut_h (s1:=c) u9 Z Z h)<|zA (sb b)<|RLb a (xJ (s1:=g) (s2:=b) Z Z) λd a=>pt (vb d)<|zB (vb d) ?_) λa=>?_;cases a;exact jn<|mt () (H.U []);refine zL<|zL<|zL<|zL<|zL<|zL<|pf (vb false)<|zB (vb false) ?_;cases a;exact jn<|mt () (H.U []);rintro _ ρ m H;have a:=f;cases a;exact zI<|p1z ⟨Z,H.U []⟩
theorem Fi5w {b c r:Str}(a:Fi5 b c=some r)(H:Hd O w w S []):
  Rt 281 [sb b,sb c] (sb r) w O S []:=by
 refine CW 13 Tryz.func281 ?_;refine SR<|zB (.string (bs []))<|RM<|SQ<|SR<|zA (sb b)<|zA (sb c)<|bE a λg d a=>RC en245 (Fgyw d (H.W [] [])) H λh H=>RM<|WJ a (λa=>SR<|zA (sb b)<|zA (sb c)<|RLi a (aH (s1:=c) u9 Z) λi a=>bE a λe f a=>zH (aJw (s1:=b) u9 Z Z f)<|zB (sb e)<|RM ?_) λa=>?_;cases a;exact zI<|zF<|p1z ⟨Z,H.U []⟩;refine WZ<|SR<|zA (sb b)<|zB (sb b)<|RM ?_;cases a;exact zI<|p1z ⟨Z,H.U []⟩
theorem Fiyw {a b r:Str}(c:Fiy a b=some r)(H:Hd O w w S []):
  Rt 244 [sb a,sb b] (sb r) w O S []:=by
 refine CW 8 Tryz.func244 ?_;refine SR<|zB (.string (bs []))<|RM<|SR<|zA (sb a)<|zA (sb b)<|bE c λd e c=>RC (fD Tryz.func281) (Fi5w e (H.W [] [])) H λf H=>zB (sb d)<|RM ?_;cases c;exact zI<|p1z ⟨Z,H.U []⟩
theorem Fj7w {b r:gI}{c:Nat}{d f h:Value}(a:Fj7 b=some r)(H:Hd O w w S [.own Rp.str d 9 b.r.Phases,.own fK f 207 b.r.Moves,.own eG h 211 b.r.Rules,.blk c [sb b.text,i6 b.at_,i6 b.now.kind,i6 b.now.at_,i6 b.now.n,sb b.now.text,d,f,h] 156,.fz (.gi 4)]):
  Cl 192 [gQ c] w λe q=> ∃l m o,e= .returned (.tuple #[])/\Hd O w q S [.own Rp.str l 9 r.r.Phases,.own fK m 207 r.r.Moves,.own eG o 211 r.r.Rules,.blk c [sb r.text,i6 r.at_,i6 r.now.kind,i6 r.now.at_,i6 r.now.n,sb r.now.text,l,m,o] 156]:=by
 refine CW 55 Tryz.func192 ?_;refine SR<|zA (gQ c)<|nf Z bK<|zH (aBj Z)<|Ld dE H 3 5 Z Z<|zB (sb b.now.text)<|RM<|SR<|zA (sb b.now.text) ?_;obtain⟨⟨j,s⟩,t,a⟩:=zX a;refine cAa (fD Tryz.func242) (E.Fhaw b.now.text _ t _ _ _ (H.W [] [4])) λk Q u=>?_;have H:=H.back1 [4] Z u;refine zA (.tuple #[i6 j,k])<|zH (zW (v:=i6 j) Z Z)<|zH (zW (v:=k) Z Z)<|zB (i6 j)<|zB k<|RM<|zJ<|SR<|zA (sb b.now.text)<|bE a λy z a=>RC en200 (Fb8w z (H.W [] [])) H λ_ H=>zB (vb y)<|RM<|WJ a (λa=>zD<|zA (gQ c)<|nf Z bK<|zH (pM Z)<|xu (yR H 3 Z sz3 Z (v:=i6 1) Z Z Z) λT H=>?_) λa=>?_;cases a;exact yL<|zO<|qC Z ⟨d,f,h,Z,H.U [0,1,2,3]⟩;refine SR<|zA (sb b.now.text)<|bE a λA B a=>RC aOp (Fakw B (H.W [] [])) H λU H=>zB (vb A)<|RM<|WJ a (λa=>zD<|zA (gQ c)<|nf Z bK<|zH (pM Z)<|xu (yR H 3 Z sz3 Z (v:=i6 2) Z Z Z) λV H=>?_) λa=>?_;cases a;exact yL<|zO<|qC Z ⟨d,f,h,Z,H.U [0,1,2,3]⟩;refine bE a λC a D=>jo H (rg [31,15]) (λ(g:Unit)=>[(31,vb C)]) (λg=>[]) (rg [0,5]) ?_ ?_;refine zD<|zA k<|RLb a (Do_eqlif ui305 (H.im 5 Z) Z) λX a=>bE a λF a G=>yV 6 [34,35,36,37,38,39] [(39,vb F)] (λwl=>Hd O w wl S [.own Rp.str d 9 b.r.Phases,.own fK f 207 b.r.Moves,.own eG h 211 b.r.Rules,.blk c [sb b.text,i6 b.at_,i6 b.now.kind,i6 b.now.at_,i6 b.now.n,sb b.now.text,d,f,h] 156,.fz (.gi 4),.fz (.ic k s)]) ?_ ?_;refine RJ a (λa=>zA (i6 j)<|bE a λI J a=>RC (fD Tryz.func243) (E.Ffgw j _ J _ _ _ (H.W [] [])) H λY H=>zA (sb b.now.text)<|RLb a (xJ (s1:=I) (s2:=b.now.text) Z Z) λK a=>pt (vb K) ?_) λa=>?_
 cases a;exact jn<|meet ⟨(yB Z yC),H.U (rg [0,6])⟩;refine zL<|zL<|zL<|zL<|pf (vb false) ?_;cases a;exact jn<|meet ⟨(yB Z yC),H.U (rg [0,6])⟩;rintro ρ _ H;have a:=G;refine RJ a (λa=>zA (sb b.now.text)<|bE a λL M a=>RC (fD Tryz.func244) (Fiyw M (H.W [] [])) H λ_ H=>RLi a (aH (s1:=L) u9 Z) λ_ a=>sU a λp a=>pt (vb p)<|zB (vb p) ?_) λa=>?_;cases a;exact jn<|mt () (H.U (rg [0,5]));refine zL<|zL<|zL<|zL<|pf (vb false)<|zB (vb false) ?_;cases a;exact jn<|mt () (H.U (rg [0,5]));rintro _ ρ _ H;have H:=un5 H;have a:=D;refine WJ a (λa=>zD<|zA (gQ c)<|zA (gQ c)<|zA (i6 j)<|nf Z bK<|zH (pM Z)<|xu (yR H 3 Z sz3 Z (v:=i6 3) Z Z Z) λ_ H=>nf Z bK<|zH (fa154_2 Z)<|xu (yR H 3 Z sz3 Z (v:=i6 j) Z Z Z) λaf H=>?_) λa=>?_;cases a;exact yL<|zO<|qC Z ⟨d,f,h,Z,H.U [0,1,2,3]⟩;refine zD<|zA (gQ c) ?_;have N:=H;have H:=H.freezeB (i:=3) Z;have H:=H.freeze (i:=0) Z;have H:=H.freeze (i:=1) Z;have H:=H.freeze (i:=2) Z;have H:=H.fz (.pt eP (some ⟨c,0,none⟩) (some b)) ⟨_,_,_,Z,(H.im 3 Z).1,(H.im 3 Z).2.1,(xN (x:=b) (H.im 0 Z) (H.im 1 Z) (H.im 2 Z)),(H.im 3 Z).2.2⟩;refine bE a λ_ P a=>RC aIb (aUg P (H.W [] [5])) N λ_ H=>?_;cases a;exact yL<|zO<|qC Z ⟨d,f,h,Z,H.U [0,1,2,3]⟩
theorem Fikw {a b:Str}{r:Bool}(c:Fik a b=some r)(H:Hd O w w S []):
  Rt 193 [sb a,sb b] (vb r) w O S []:=by
 refine CW 8 Tryz.func193 ?_;refine SR<|zB (vb false)<|RM<|SR<|zA (sb a)<|zA (sb b)<|bE c λd e c=>RC en245 (Fgyw e (H.W [] [])) H λf H=>zB (vb d)<|RM ?_;cases c;exact zI<|p1z ⟨Z,H.U []⟩
theorem aMq {h r:gI}{d:Nat}{u z A:Value}(c:Fae h=some r)(H:Hd O w w S [.own Rp.str u 9 h.r.Phases,.own fK z 207 h.r.Moves,.own eG A 211 h.r.Rules,.blk d [sb h.text,i6 h.at_,i6 h.now.kind,i6 h.now.at_,i6 h.now.n,sb h.now.text,u,z,A] 156,.fz (.gi 4)]):
  Cl 125 [gQ d] w λe k=> ∃B C D,e= .returned (.tuple #[])/\Hd O w k S [.own Rp.str B 9 r.r.Phases,.own fK C 207 r.r.Moves,.own eG D 211 r.r.Rules,.blk d [sb r.text,i6 r.at_,i6 r.now.kind,i6 r.now.at_,i6 r.now.n,sb r.now.text,B,C,D] 156]:=by
 refine CW 107 Tryz.func125 ?_;refine SR<|zA (gQ d)<|bE c λf J c=>cAc (fD Tryz.func190) (Fhcw J (H.W [0,1,2,3] [])) λl m o _ K=>?_;have H:=un5<|H.back [0,1,2,3] [] rfl K;refine RM<|SR<|zA (gQ d)<|nf rfl jA<|Ld gX H 4 1 rfl rfl<|zB (i6 f.at_)<|RM<|SR<|zA (gQ d)<|zA (i6 f.at_)<|zH (yI (cs:=[i6 0,i6 f.at_,i6 0,.string (bs [])]) (bt154_0_1 _ _))<|nf rfl bK<|xu (zS (vs:=[i6 0,i6 f.at_,i6 0,.string (bs [])]) H 4 rfl aOj rfl rfl rfl ⟨rfl,rfl,rfl,rfl,T1⟩ rfl) λ_ H=>RM<|SQ<|SR<|zA (i6 f.at_)<|zA (gQ d)<|nf rfl tZ<|Ld dE H 4 0 rfl rfl<|RLi c (aH (s1:=f.text) u9 rfl) λ_ c=>eQ c λ_ c=>RM<|WJ c (λc=>?_) (λc=>?_);cases c;exact zI<|zF<|aYs rfl ⟨l,m,o,rfl,H.U [1,2,3,4]⟩;refine WZ<|bE c λs c L=>jo H (rg [23,29]) (λ(g:Unit)=>[]) (λg=>[.blk d [sb f.text,i6 s,i6 0,i6 f.at_,i6 0,.string (bs []),l,m,o] 156]) [1,2,3,4,0] ?_ ?_;refine zJ<|lo c H (rg [23,29]) (λx (y:Unit)=>[]) (λx y=>[.blk d [sb f.text,i6 x,i6 0,i6 f.at_,i6 0,.string (bs []),l,m,o] 156]) [1,2,3,4,0] () (H.U (rg [0,5])) ?_;clear H c;rintro a0 E _ ρ _ H c;have H:=un5 H;refine SQ<|bE c λM c N=>sJ H (rg [23,22]) [(44,vb M)] ?_ ?_;have F:=H;have H:=H.rb;have a2:=H;refine xG H (rg [0,22]) (kz [0,0,0,1,0,0,0,1,0,0,0,0,0,0,1,0,0,0,1,0,4,0]) mixed ?_;refine XM (gQ d)<|Xn rfl jA<|XR gX H 4 1 rfl rfl<|XM (gQ d)<|Xn rfl tZ<|XR dE H 4 0 rfl rfl<|lE c λP Q c=>XQ (yG (aH (s1:=f.text) u9 rfl) (congrArg (Value.int .i64) Q))<|lE c λR T c=>XQ (wF (aEj (a:=E) (b:=P) rfl rfl) T)<|MxM.XL_splitb (b:=R) rfl rfl rfl rfl (λt=>?_) (λt=>?_)
 have c:=jX t c;refine XM (gQ d)<|Xn rfl tZ<|XR dE H 4 0 rfl rfl<|XM (gQ d)<|Xn rfl jA<|XR gX H 4 1 rfl rfl<|bE c λa3 U c=>XQ (qW (s1:=f.text) (q:=E) u9 rfl rfl U) ?_;have V:=H;refine bE c λG X c=>MxM.XL_fcall oS rfl rfl rfl (v:=vb G) (λk p=>yY en191 rfl) (λk p=>xU (Fcaw X (Hd.fresh0 k))) ?_;have H:=V;refine XQ (dG (v:=vb G) rfl rfl)<|nJ F H λa4 H=>?_;cases c;exact zG<|mt () (H.U (rg [0,5]));have c:=jW t c;refine XO<|XO<|XO<|MxM.wC oS rfl rfl rfl ?_;refine XO<|XO<|XO<|MxM.wC oS rfl rfl rfl ?_;refine XO<|MxM.XL_offf oS rfl rfl rfl ?_;refine XQ (bF (v:=vb false) rfl rfl)<|nJ F H λa5 H=>?_;cases c;exact zG<|mt () (H.U (rg [0,5]));rintro _ ρ _ H;have c:=N;refine WJ c (λc=>?_) (λc=>?_);exact WZ<|zJ<|zD<|zA (gQ d)<|nf rfl jA<|Ld gX H 4 1 rfl rfl<|fE c λY c=>nf rfl jA<|xu (yR H 4 rfl sz3 rfl (v:=i6 Y) rfl rfl rfl) λ_ H=>yL<|zO<|zG<|me c () (H.U (rg [0,5]));cases c;exact zY<|zM<|zM<|zQ<|zG<|mt () (H.U (rg [0,5]));rintro _ ρ _ H;have H:=un5 H;have c:=L;refine SQ<|SR<|zA (gQ d)<|nf rfl jA<|Ld gX H 4 1 rfl rfl<|zA (i6 f.at_)<|dS c λa9 c=>RM<|WJ c (λc=>?_) (λc=>?_);refine SQ ?_;have aa:=H;have H:=H.rb;have ba:=H;refine xG H (rg [0,15]) (kz [0,0,0,0,1,0,0,0,0,1,0,0,0,0,3]) mixed ?_;refine XM (gQ d)<|XM (gQ d)<|Xn rfl tZ<|XR dE H 4 0 rfl rfl<|XM (i6 f.at_)<|XM (gQ d)<|Xn rfl jA<|XR gX H 4 1 rfl rfl<|bE c λab ac c=>XQ (Do_cut_lh (s1:=f.text) u9 rfl rfl rfl ac)<|Xn rfl bK<|XQ (aBj rfl)<|Xu (λk p=>yR (H.Z p) 4 rfl sz9 rfl (v:=sb ab) rfl rfl rfl) λk _ p H=>nJ aa H λ_ H=>?_
 refine zG<|KN<|SR<|zA (gQ d)<|bE c λ_ ad c=>cAc (fD Tryz.func192) (Fj7w ad (H.W [1,2,3,4] [0])) λae af ag _ ah=>?_;have H:=un5<|H.back [1,2,3,4] [0] rfl ah;refine RM ?_;cases c;exact zI<|zF<|aYs rfl ⟨ae,af,ag,rfl,H.U [1,2,3,4]⟩;refine WZ<|jk c H (rg [4,1,74,31]) (λx (y:Unit)=>[]) (λx y=>[]) (rg [0,5]) (λbf c=>?_) ?_;refine SR<|lE c λ_ ai c=>?_;subst ai;refine xv (kl kStr [[60,61],[33,61],[62,61],[60],[61],[62],[40],[41]] u29 el9 H) λ_ _ H=>?_;obtain⟨_,_,aj⟩:=Sr.len (Sr.yX (H.im 5 rfl));refine RLi c (dL u29 aj) λ_ c=>zA (i6 0)<|RM<|zJ<|lo c H (rg [4,1,76,29]) (λx (y:Unit)=>[(76,i6 x)]) (λx y=>[]) (rg [0,6]) () (H.U (rg [0,6])) ?_;clear H c;rintro _ _ _ ρ _ H c;have H:=un6 H;refine SR<|fF c λ_ c=>RM<|SQ<|WJ c (λc=>?_) (λc=>?_);refine WZ<|SQ<|zJ<|SR<|bE c λj I c=>?_;obtain⟨_,_,ak,al,am,an⟩:=kM (H.im 5 rfl) I;obtain rfl:ak=[sb j]:=am;refine ix u29 sz9 al I<|zH (yJ dE rfl (Cells.get an (i:=0) rfl))<|zB (sb j)<|RM<|SR<|zA (gQ d)<|nf rfl tZ<|Ld dE H 4 0 rfl rfl<|zA (i6 f.at_)<|bE c λ_ ao c=>zH (aJw (s1:=f.text) u9 rfl rfl ao)<|zA (sb j)<|bE c λ_ ap c=>RC (fD Tryz.func193) (Fikw ap (H.W [] [])) H λ_ H=>RM<|WJ c (λc=>?_) (λc=>?_);refine SR<|zA (gQ d)<|zA (gQ d)<|zA (gQ d)<|zA (sb j)<|zA (i6 f.at_)<|zA (sb j)<|RLi c (aH (s1:=j) u9 rfl) λ_ c=>fE c λaq c=>nf rfl bK<|zH (pM rfl)<|xu (yR H 4 rfl sz3 rfl (v:=i6 4) rfl rfl rfl) λ_ H=>nf rfl bK<|zH (aBj rfl)<|xu (yR H 4 rfl sz9 rfl (v:=sb j) rfl rfl rfl) λ_ H=>nf rfl jA<|xu (yR H 4 rfl sz3 rfl (v:=i6 aq) rfl rfl rfl) λ_ H=>RM ?_
 cases c;exact zI<|zN<|zF<|zF<|zN<|zF<|aYs rfl ⟨l,m,o,rfl,H.U [1,2,3,4]⟩;exact yE<|zO<|zG<|KN<|zD<|fE c λar c=>zA (i6 ar)<|jn<|me c () (H.U (rg [0,6]));exact zY<|zM<|zM<|zQ<|zG<|me c () (H.U (rg [0,5]));rintro _ _ ρ _ H c;have H:=un5 H;refine zD<|zA (gQ d) ?_;have au:=H;have H:=H.freezeB (i:=4) rfl;have H:=H.freeze (i:=1) rfl;have H:=H.freeze (i:=2) rfl;have H:=H.freeze (i:=3) rfl;have H:=H.fz (.pt eP (some ⟨d,0,none⟩) (some (gI.mk f.text s (gU.mk 0 f.at_ 0 []) f.r))) ⟨_,_,_,rfl,(H.im 4 rfl).1,(H.im 4 rfl).2.1,(xN (x:=gI.mk f.text s (gU.mk 0 f.at_ 0 []) f.r) (H.im 1 rfl) (H.im 2 rfl) (H.im 3 rfl)),(H.im 4 rfl).2.2⟩;refine bE c λ_ av c=>RC aIb (aUg av (H.W [] [5])) au λ_ H=>?_;cases c;exact yL<|qC rfl ⟨l,m,o,rfl,H.U [1,2,3,4]⟩
theorem aVq {f:Option gI}{d:Str}{c:Option Addr}{r:Bool}(a:Fao f d=some r)(H:Hd O w w S [.fz (.pt eP c f)]):
  Rt 126 [.pointer c,sb d] (vb r) w O S []:=by
 refine CW 28 Tryz.func126 ?_;refine SR<|zB (vb false)<|RM<|bE a λv a x=>jo H (rg [4,24]) (λ(g:Unit)=>[(4,vb v)]) (λg=>[]) [] ?_ ?_;refine zD<|zA (.pointer c)<|bE a λb y a=>?_;obtain⟨h,j,_,z,A,B,C,D⟩:=aO ((H.im 0 rfl):PtF _ _ _ _ _) y;obtain⟨k,l,m,rfl,E,F,G⟩:=kK C;have H:=H.fzs [.at h j _,.sl Rp.str k b.r.Phases,.sl fK l b.r.Moves,.sl eG m b.r.Rules] ⟨⟨A,B,D⟩,E,F,G,T1⟩;refine zH (xO (ad:=⟨h,j,none⟩) (congrArg Value.pointer z))<|zH (bK rfl)<|zH (pM rfl)<|zH (yJ gX rfl (Cells.get (H.im 1 rfl).2.2 (i:=2) rfl))<|eQ a λ_ a=>bE a λI a J=>yV 8 [11,12,13,14,15,16,17,18] [(18,vb I)] (λwl=>Hd O w wl S [.fz (.pt eP c f),.fz (.at h j [sb b.text,i6 b.at_,i6 b.now.kind,i6 b.now.at_,i6 b.now.n,sb b.now.text,k,l,m]),dD k b.r.Phases,wL l b.r.Moves,uQ m b.r.Rules]) ?_ ?_;refine RJ a (λa=>?_) (λa=>?_);refine zL<|zL<|zL<|zL<|zL<|zL<|pt (vb true) ?_;cases a;exact jn<|meet ⟨(yB rfl yC),H.U (rg [0,5])⟩;refine zA (.pointer c)<|bE a λo K a=>?_;obtain⟨p,q,_,L,M,N,P,Q⟩:=aO ((H.im 0 rfl):PtF _ _ _ _ _) K;obtain⟨R,T,U,rfl,V,X,Y⟩:=kK P;have H:=H.fzs [.at p q _,.sl Rp.str R o.r.Phases,.sl fK T o.r.Moves,.sl eG U o.r.Rules] ⟨⟨M,N,Q⟩,V,X,Y,T1⟩;refine zH (xO (ad:=⟨p,q,none⟩) (congrArg Value.pointer L))<|zH (bK rfl)<|zH (pM rfl)<|zH (yJ gX rfl (Cells.get (H.im 5 rfl).2.2 (i:=2) rfl))<|eQ a λaa a=>pf (vb aa) ?_;cases a;exact jn<|meet ⟨(yB rfl yC),H.U (rg [0,5])⟩;rintro ρ _ H;have a:=J;refine RJ a (λa=>?_) (λa=>?_);refine zA (.pointer c)<|bE a λe ab a=>?_
 obtain⟨s,t,_,ac,ae,af,ag,ah⟩:=aO ((H.im 0 rfl):PtF _ _ _ _ _) ab;obtain⟨ai,aj,ak,rfl,al,am,an⟩:=kK ag;have H:=H.fzs [.at s t _,.sl Rp.str ai e.r.Phases,.sl fK aj e.r.Moves,.sl eG ak e.r.Rules] ⟨⟨ae,af,ah⟩,al,am,an,T1⟩;refine zH (xO (ad:=⟨s,t,none⟩) (congrArg Value.pointer ac))<|zH (bK rfl)<|zH (aBj rfl)<|zH (yJ dE rfl (Cells.get (H.im 5 rfl).2.2 (i:=5) rfl))<|zA (sb d)<|RLb a (xJ (s1:=e.now.text) (s2:=d) rfl rfl) λu a=>pt (vb u)<|zB (vb u) ?_;cases a;exact jn<|mt () (H.U []);refine zL<|zL<|zL<|zL<|zL<|zL<|zL<|pf (vb false)<|zB (vb false) ?_;cases a;exact jn<|mt () (H.U []);rintro _ ρ _ H;have a:=x;cases a;exact zI<|p1z ⟨rfl,H.U []⟩
theorem Ffqw {a:gI}{d:Int}{c:Nat}{f g h:Value}{r:gU×gI}(b:Ffq a d=some r)(H:Hd O w w S [.own Rp.str f 9 a.r.Phases,.own fK g 207 a.r.Moves,.own eG h 211 a.r.Rules,.blk c [sb a.text,i6 a.at_,i6 a.now.kind,i6 a.now.at_,i6 a.now.n,sb a.now.text,f,g,h] 156,.fz (.gi 4)]):
  Cl 194 [gQ c,i6 d] w λe m=> ∃j k l,e= .returned (.agg [i6 r.1.kind,i6 r.1.at_,i6 r.1.n,sb r.1.text].toArray)/\Hd O w m S [.own Rp.str j 9 r.2.r.Phases,.own fK k 207 r.2.r.Moves,.own eG l 211 r.2.r.Rules,.blk c [sb r.2.text,i6 r.2.at_,i6 r.2.now.kind,i6 r.2.now.at_,i6 r.2.now.n,sb r.2.now.text,j,k,l] 156]:=by
 refine CW 22 Tryz.func194 ?_;refine SR<|xb (yA aYx H) λ_ A H=>RM<|bE b λB b o=>sJ H (rg [6,9]) [] ?_ ?_;refine SR<|zA (gQ c)<|nf Z bK<|zH (pM Z)<|Ld gX H 3 2 Z Z<|zA (i6 d)<|dQ b λC b=>RM<|WJ b (λb=>zD<|zA (gQ c) ?_) λb=>?_;have p:=H;have H:=H.freezeB (i:=3) Z;have H:=H.freeze (i:=0) Z;have H:=H.freeze (i:=1) Z;have H:=H.freeze (i:=2) Z;have H:=H.fz (.pt eP (some ⟨c,0,none⟩) (some a)) ⟨_,_,_,Z,(H.im 3 Z).1,(H.im 3 Z).2.1,(xN (x:=a) (H.im 0 Z) (H.im 1 Z) (H.im 2 Z)),(H.im 3 Z).2.2⟩;refine bE b λ_ q b=>RC aIb (aUg q (H.W [] [6])) p λD H=>?_;cases b;exact jn<|mt () (H.U (rg [0,6]));cases b;exact js<|mt () (H.U (rg [0,6]));rintro _ ρ _ H;have b:=o;refine SR<|zA (gQ c)<|nf Z bK<|zH (yG (zZ (cs:=[i6 a.now.kind,i6 a.now.at_,i6 a.now.n,sb a.now.text]) aWl Z aOj Z (Cells.drop (Hbc H 3 Z) 2 4)) Z)<|xb (yA aYx H) λ_ _ H=>xu (zS (vs:=[i6 a.now.kind,i6 a.now.at_,i6 a.now.n,sb a.now.text]) H 6 Z aOj Z Z Z ⟨Z,Z,Z,Z,T1⟩ Z) λ_ H=>RM<|SR<|zA (gQ c)<|bE b λ_ s b=>cAc aDq (aMq s (H.W [0,1,2,3] [4])) λt u v _ y=>?_;have H:=un7<|H.back [0,1,2,3] [4] Z y;refine RM<|SR<|lb H 2 Z aWl aOj<|xu (zS (vs:=[i6 a.now.kind,i6 a.now.at_,i6 a.now.n,sb a.now.text]) H 1 Z aOj Z Z Z ⟨Z,Z,Z,Z,T1⟩ Z) λ_ H=>RM ?_;cases b;exact zI<|bJ Z Z (zU aWl aOj Z (Hbc H 1 Z)) ⟨t,u,v,Z,H.U [3,4,5,6]⟩
theorem aVd {a:gI}{b:Nat}{d f g:Value}{r:Str×gI}(c:Faq a=some r)(H:Hd O w w S [.own Rp.str d 9 a.r.Phases,.own fK f 207 a.r.Moves,.own eG g 211 a.r.Rules,.blk b [sb a.text,i6 a.at_,i6 a.now.kind,i6 a.now.at_,i6 a.now.n,sb a.now.text,d,f,g] 156,.fz (.gi 4)]):
  Cl 127 [gQ b] w λe l=> ∃h i j,e= .returned (sb r.1)/\Hd O w l S [.own Rp.str h 9 r.2.r.Phases,.own fK i 207 r.2.r.Moves,.own eG j 211 r.2.r.Rules,.blk b [sb r.2.text,i6 r.2.at_,i6 r.2.now.kind,i6 r.2.now.at_,i6 r.2.now.n,sb r.2.now.text,h,i,j] 156]:=by
 refine CW 6 Tryz.func127 ?_;refine SR<|zB (.string (bs []))<|RM<|SR<|zA (gQ b) ?_;obtain⟨⟨k,t⟩,m,c⟩:=zX c;refine cAc en194 (Ffqw m (H.W [0,1,2,3] [4])) λo p q u s=>?_;have H:=un5<|H.back [0,1,2,3] [4] rfl s;refine zH (aGz (v:=sb k.text) fo154_3 dE rfl rfl)<|zB (sb k.text)<|RM ?_;cases c;exact zI<|p1z ⟨o,p,q,rfl,H.U [1,2,3,4]⟩
theorem Fbew {b r:gI}{d:Str}{c:Nat}{f g h:Value}(a:Fbe b d=some r)(H:Hd O w w S [.own Rp.str f 9 b.r.Phases,.own fK g 207 b.r.Moves,.own eG h 211 b.r.Rules,.blk c [sb b.text,i6 b.at_,i6 b.now.kind,i6 b.now.at_,i6 b.now.n,sb b.now.text,f,g,h] 156,.fz (.gi 4)]):
  Cl 128 [gQ c,sb d] w λe m=> ∃j k l,e= .returned (.tuple #[])/\Hd O w m S [.own Rp.str j 9 r.r.Phases,.own fK k 207 r.r.Moves,.own eG l 211 r.r.Rules,.blk c [sb r.text,i6 r.at_,i6 r.now.kind,i6 r.now.at_,i6 r.now.n,sb r.now.text,j,k,l] 156]:=by
 refine CW 12 Tryz.func128 ?_;refine bE a λB a o=>sJ H (rg [4,6]) [] ?_ ?_;refine SR<|zA (gQ c)<|zA (sb d) ?_;have p:=H;have H:=H.freezeB (i:=3) Z;have H:=H.freeze (i:=0) Z;have H:=H.freeze (i:=1) Z;have H:=H.freeze (i:=2) Z;have H:=H.fz (.pt eP (some ⟨c,0,none⟩) (some b)) ⟨_,_,_,Z,(H.im 3 Z).1,(H.im 3 Z).2.1,(xN (x:=b) (H.im 0 Z) (H.im 1 Z) (H.im 2 Z)),(H.im 3 Z).2.2⟩;refine bE a λC q a=>RC aLj (aVq q (H.W [] [5])) p λD H=>dB a λ_ a=>RM<|WJ a (λa=>zD<|zA (gQ c) ?_) λa=>?_;have s:=H;have H:=H.freezeB (i:=3) Z;have H:=H.freeze (i:=0) Z;have H:=H.freeze (i:=1) Z;have H:=H.freeze (i:=2) Z;have H:=H.fz (.pt eP (some ⟨c,0,none⟩) (some b)) ⟨_,_,_,Z,(H.im 3 Z).1,(H.im 3 Z).2.1,(xN (x:=b) (H.im 0 Z) (H.im 1 Z) (H.im 2 Z)),(H.im 3 Z).2.2⟩;refine bE a λ_ t a=>RC aIb (aUg t (H.W [] [5])) s λ_ H=>?_;cases a;exact jn<|mt () (H.U (rg [0,5]));cases a;exact js<|mt () (H.U (rg [0,5]));rintro _ ρ _ H;have a:=o;refine zD<|zA (gQ c)<|bE a λ_ u a=>cAc aDq (aMq u (H.W [0,1,2,3] [4])) λv y z _ A=>?_;have H:=un5<|H.back [0,1,2,3] [4] Z A;cases a;exact yL<|qC Z ⟨v,y,z,Z,H.U [1,2,3,4]⟩
abbrev Fai (f:gI->Int->Option (Cond×gI)):Prop:= ∀(p0:gI) (p1:Int) (b1:Nat) (v2:Value) (v3:Value) (v4:Value) (r:Cond×gI) (_:f p0 p1=some r) (O S:List Nat) (w:World) (_:Hd O w w S [.own Rp.str v2 9 p0.r.Phases,.own fK v3 207 p0.r.Moves,.own eG v4 211 p0.r.Rules,.blk b1 [sb p0.text,i6 p0.at_,i6 p0.now.kind,i6 p0.now.at_,i6 p0.now.n,sb p0.now.text,v2,v3,v4] 156,.fz (.at 2 0 ((Fl.arr 7 Fl.str).f yT)),.fz (.gi 4)]),
  Cl 129 [gQ b1,i6 p1] w λe w'=> ∃u11 u12 u13 u14,e= .returned (.agg [i6 r.1.Kind,sb r.1.Name,sb r.1.Other,i6 r.1.Op,i6 r.1.N,i6 r.1.Frames,u11].toArray)/\Hd O w w' S [jQ u11 r.1.Kids,.own Rp.str u12 9 r.2.r.Phases,.own fK u13 207 r.2.r.Moves,.own eG u14 211 r.2.r.Rules,.blk b1 [sb r.2.text,i6 r.2.at_,i6 r.2.now.kind,i6 r.2.now.at_,i6 r.2.now.n,sb r.2.now.text,u12,u13,u14] 156]
theorem Fcgw {e:List Str}{c:Str}{d:Value}{r:Int}(a:Fcg e c=some r)(H:Hd O w w S [dD d e]):
  Rt 201 [d,sb c] (i6 r) w O S []:=by
 refine CW 19 Tryz.func201 ?_;refine SR<|zB (i6 0)<|RM<|jk a H (rg [4,15]) (λx (y:Unit)=>[]) (λx y=>[]) [] (λi a=>?_) ?_;refine SR<|zA d<|ln a (H.im 0 Z) u29 λj a=>zA (i6 0)<|RM<|zJ<|lo a H (rg [4,2,8,11]) (λx (y:Unit)=>[(8,i6 x)]) (λx y=>[]) [0] () (H.U [0]) ?_;clear H a;rintro k b _ ρ l H a;have H:=un1 H;refine SR<|fF a λm a=>RM<|SQ<|WJ a (λa=>WZ<|SQ<|zJ<|SR<|zA (i6 b)<|zB (i6 b)<|RM<|SR<|zA (sb c)<|zA d<|zA (i6 b)<|bE a λf g a=>rea H (H.im 0 Z) (sb f) g u29 sz9 dE λn o H=>RLb a (xJ (s1:=c) (s2:=f) Z Z) λ_ a=>RM<|WJ a (λa=>SR<|zA (i6 b)<|zB (i6 b)<|RM ?_) λa=>?_) λa=>?_;cases a;exact zI<|zN<|zF<|zF<|zN<|zF<|p1z ⟨Z,H.U []⟩;exact yE<|zO<|zG<|KN<|zD<|fE a λh a=>zA (i6 h)<|jn<|me a () (H.U [0]);exact zY<|zM<|zM<|zQ<|zG<|me a () (H.U []);rintro _ _ ρ _ H a;refine SR<|zB (i6 (-1))<|RM ?_;cases a;exact zI<|p1z ⟨Z,H.U []⟩
theorem Fasw {d:List Str}{b:Str}{c:Value}{r:Bool}(a:Fas d b=some r)(H:Hd O w w S [dD c d]):
  Rt 132 [c,sb b] (vb r) w O S []:=by
 refine CW 9 Tryz.func132 ?_;refine SR<|zB (vb false)<|RM<|SR<|zA c<|zA (sb b)<|bE a λg e a=>RC en201 (Fcgw e (H.W [] [0])) H λh H=>mQ a λf a=>zB (vb f)<|RM ?_;cases a;exact zI<|p1z ⟨Z,H.U []⟩
theorem Fjow {e:Option gI}{b:Option Addr}{r:Bool}(a:Fjo e=some r)(H:Hd O w w S [.fz (.pt eP b e)]):
  Rt 246 [.pointer b] (vb r) w O S []:=by
 refine CW 21 Tryz.func246 ?_;refine SR<|zB (vb false)<|RM<|SQ<|SR<|zA (.pointer b)<|bE a λc k a=>?_;obtain⟨f,g,V,l,m,n,o,p⟩:=aO ((H.im 0 Z):PtF _ _ _ _ _) k;obtain⟨q,s,t,rfl,u,v,x⟩:=kK o;have H:=H.fzs [.at f g _,.sl Rp.str q c.r.Phases,.sl fK s c.r.Moves,.sl eG t c.r.Rules] ⟨⟨m,n,p⟩,u,v,x,T1⟩;refine zH (xO (ad:=⟨f,g,none⟩) (congrArg Value.pointer l))<|zH (bK Z)<|zH (pM Z)<|zH (yJ gX Z (Cells.get (H.im 1 Z).2.2 (i:=2) Z))<|RM<|zJ<|SR<|eQ a λy a=>zB (vb y)<|RM<|WJ a (λa=>SR<|zB (vb true)<|RM ?_) λa=>?_;cases a;exact zI<|zN<|zF<|p1z ⟨Z,H.U []⟩;refine SR<|eQ a λz a=>zB (vb z)<|RM<|WJ a (λa=>SR<|lE a λX A a=>?_) λa=>?_;subst A;refine xv (kl kStr [[116,114,117,101],[102,97,108,115,101],[115,116,101,97,100,121],[112,104,97,115,101],[114,117,108,101],[110,111,116],[102,111,114],[119,105,116,104,105,110],[99,111,117,110,116],[114,105,115,101,115],[115,105,110,99,101]] u29 el9 H) λY _ H=>zA (.pointer b)<|bE a λd B a=>?_;obtain⟨h,j,_,C,D,E,F,G⟩:=aO ((H.im 0 Z):PtF _ _ _ _ _) B;obtain⟨I,J,K,rfl,L,M,N⟩:=kK F;have H:=H.fzs [.at h j _,.sl Rp.str I d.r.Phases,.sl fK J d.r.Moves,.sl eG K d.r.Rules] ⟨⟨D,E,G⟩,L,M,N,T1⟩;refine zH (xO (ad:=⟨h,j,none⟩) (congrArg Value.pointer C))<|zH (bK Z)<|zH (aBj Z)<|zH (yJ dE Z (Cells.get (H.im 6 Z).2.2 (i:=5) Z)) ?_;have P:=H;have H:=H.freeze (i:=5) Z;refine bE a λQ R a=>RC aTy (Fasw R (H.W [] [5])) P λ_ H=>zB (vb Q)<|RM ?_;cases a
 exact zI<|zN<|zF<|p1z ⟨Z,H.U []⟩;refine yE<|zO<|zG<|KN<|SR<|zA (.pointer b)<|bE a λT U a=>RC aLj (aVq U (H.W [] [0])) H λ_ H=>zB (vb T)<|RM ?_;cases a;exact zI<|p1z ⟨Z,H.U []⟩
theorem Fa5w {a:gI}{b:Nat}{d f g:Value}{r:Int×gI}(c:Fa5 a=some r)(H:Hd O w w S [.own Rp.str d 9 a.r.Phases,.own fK f 207 a.r.Moves,.own eG g 211 a.r.Rules,.blk b [sb a.text,i6 a.at_,i6 a.now.kind,i6 a.now.at_,i6 a.now.n,sb a.now.text,d,f,g] 156,.fz (.gi 4)]):
  Cl 249 [gQ b] w λe l=> ∃h i j,e= .returned (i6 r.1)/\Hd O w l S [.own Rp.str h 9 r.2.r.Phases,.own fK i 207 r.2.r.Moves,.own eG j 211 r.2.r.Rules,.blk b [sb r.2.text,i6 r.2.at_,i6 r.2.now.kind,i6 r.2.now.at_,i6 r.2.now.n,sb r.2.now.text,h,i,j] 156]:=by
 refine CW 6 Tryz.func249 ?_;refine SR<|zB (i6 0)<|RM<|SR<|zA (gQ b) ?_;obtain⟨⟨k,t⟩,m,c⟩:=zX c;refine cAc en194 (Ffqw m (H.W [0,1,2,3] [4])) λo p q u s=>?_;have H:=un5<|H.back [0,1,2,3] [4] Z s;refine zH (aGz (v:=i6 k.n) fo154_2 gX Z Z)<|zB (i6 k.n)<|RM ?_;cases c;exact zI<|p1z ⟨o,p,q,Z,H.U [1,2,3,4]⟩
theorem Fihw {c:gI}{b:Nat}{m o p:Value}{r:Cond×gI}(a:Fih c=some r)(H:Hd O w w S [.own Rp.str m 9 c.r.Phases,.own fK o 207 c.r.Moves,.own eG p 211 c.r.Rules,.blk b [sb c.text,i6 c.at_,i6 c.now.kind,i6 c.now.at_,i6 c.now.n,sb c.now.text,m,o,p] 156,.fz (.at 2 0 ((Fl.arr 7 Fl.str).f yT)),.fz (.gi 4)]):
  Cl 247 [gQ b] w λe d=> ∃q s t u,e= .returned (.agg [i6 r.1.Kind,sb r.1.Name,sb r.1.Other,i6 r.1.Op,i6 r.1.N,i6 r.1.Frames,q].toArray)/\Hd O w d S [jQ q r.1.Kids,.own Rp.str s 9 r.2.r.Phases,.own fK t 207 r.2.r.Moves,.own eG u 211 r.2.r.Rules,.blk b [sb r.2.text,i6 r.2.at_,i6 r.2.now.kind,i6 r.2.now.at_,i6 r.2.now.n,sb r.2.now.text,s,t,u] 156]:=by
 refine CW 45 Tryz.func247 ?_;refine SR<|xb (yA kY H) λ_ _ H=>RM<|SR<|zA (gQ b) ?_;obtain⟨⟨j,y⟩,B,a⟩:=zX a;refine cAc aKj (aVd B (H.W [0,1,2,3] [5])) λ_ _ _ _ C=>?_;have H:=un7<|H.back [0,1,2,3] [5] Z C;refine zH (yI (cs:=[i6 3,sb j,.string (bs []),i6 0,i6 0,i6 0,.slice none 0 0]) (aGj _ _))<|xb (yA kY H) λ_ _ H=>xu (zS (vs:=[i6 3,sb j,.string (bs []),i6 0,i6 0,i6 0,.slice none 0 0]) H 7 Z fJ Z Z Z ⟨Z,Z,Z,Z,Z,Z,Z,T1⟩ Z) λ_ H=>RM<|SQ ?_;have D:=H;have H:=H.rb;have aq:=H;refine xG H (rg [0,9]) (kz [0,0,0,0,0,1,1,0,3]) mixed ?_;refine MxM.XL_exP Z Z Z (aDu (e:=Fl.str) (X:=yT) (r:=Rp.str) (λ_ _ _ _=>Iff.rfl) Z u331 sz9 (H.im 0 Z).1 (H.im 0 Z).2.1 (H.im 0 Z).2.2 Z (by decide)) ?_;rintro E F;have H:=H.fz (.sl Rp.str E yT.l) F;refine XM (gQ b)<|Xn Z bK<|XQ (aBj Z)<|XR dE H 6 5 Z Z ?_;have G:=H;refine bE a λk I a=>MxM.XL_call oS Z Z Z (v:=i6 k) (λd h=>yY en201 Z) (λd h=>xU (Fcgw I ((H.Z h).W [] [8]))) ?_;have H:=G;refine XQ (aIt Z)<|Xu (λd h=>yR (H.Z h) 7 Z sz3 Z (v:=i6 k) Z Z Z) λd _ h H=>nJ D H λ_ H=>?_;refine zG<|KN<|bE a λ_ a J=>jo H (rg [15,13]) (λ(g:Unit)=>[]) (λg=>[]) (rg [0,8]) ?_ ?_;refine bE a λK a L=>jo H (rg [15,11]) (λ(g:Unit)=>[(25,vb K)]) (λg=>[]) (rg [0,8]) ?_ ?_;refine zD<|zA (gQ b)<|nf Z bK<|zH (pM Z)<|Ld gX H 6 2 Z Z<|dQ a λ_ a=>RJ a (λa=>zL<|zL<|zL<|pt (vb true) ?_) λa=>?_
 cases a;exact jn<|mt () (H.U (rg [0,8]));refine zH (aIt Z)<|Ld gX H 7 3 Z Z<|fF a λM a=>pf (vb M) ?_;cases a;exact jn<|mt () (H.U (rg [0,8]));rintro _ ρ _ H;have H:=un8 H;have a:=L;refine WJ a (λa=>zD<|zA (gQ b) ?_) λa=>?_;have P:=H;have H:=H.freezeB (i:=6) Z;have H:=H.freeze (i:=3) Z;have H:=H.freeze (i:=4) Z;have H:=H.freeze (i:=5) Z;have H:=H.fz (.pt eP (some ⟨b,0,none⟩) (some y)) ⟨_,_,_,Z,(H.im 6 Z).1,(H.im 6 Z).2.1,(xN (x:=y) (H.im 3 Z) (H.im 4 Z) (H.im 5 Z)),(H.im 6 Z).2.2⟩;refine bE a λ_ Q a=>RC aIb (aUg Q (H.W [] [8])) P λ_ H=>?_;cases a;exact jn<|mt () (H.U (rg [0,8]));cases a;exact js<|mt () (H.U (rg [0,8]));rintro _ ρ _ H;have H:=un8 H;have a:=J;refine SR<|zA (gQ b)<|bE a λa0 R a=>cAc aDq (aMq R (H.W [3,4,5,6] [1])) λ_ a2 a3 a4 T=>?_;have H:=un8<|H.back [3,4,5,6] [1] Z T;refine RM<|SQ<|SR<|zA (gQ b)<|nf Z bK<|zH (pM Z)<|Ld gX H 7 2 Z Z<|eQ a λa5 a=>RM<|WJ a (λa=>SR<|zA (gQ b) ?_) λa=>?_;obtain⟨⟨z,_⟩,U,a⟩:=zX a;refine cAc aKj (aVd U (H.W [4,5,6,7] [1])) λV Y aa _ ab=>?_;have H:=un8<|H.back [4,5,6,7] [1] Z ab;refine zH (qO Z)<|xu (yR H 3 Z sz3 Z (v:=i6 4) Z Z Z) λ_ H=>zH (aIu Z)<|xu (yR H 3 Z sz9 Z (v:=sb z) Z Z Z) λa9 H=>RM<|SR<|lb H 3 Z eH fJ<|xu (zS (vs:=[i6 4,sb j,sb z,i6 k,i6 0,i6 0,.slice none 0 0]) H 2 Z fJ Z Z Z ⟨Z,Z,Z,Z,Z,Z,Z,T1⟩ Z) λ_ H=>RM ?_;have H:=H.fz (.sl dF (.slice none 0 0) []) SlF.nil
 cases a;exact zI<|zF<|bJ Z Z (zU eH fJ Z (Hbc H 2 Z)) ⟨.slice none 0 0,V,Y,aa,Z,H.U [8,4,5,6,7]⟩;refine WZ<|SR<|zA (gQ b) ?_;obtain⟨⟨A,_⟩,ac,a⟩:=zX a;refine cAc aUa (Fa5w ac (H.W [4,5,6,7] [1])) λad ae af _ ag=>?_;have H:=un8<|H.back [4,5,6,7] [1] Z ag;refine zH (aFl Z)<|xu (yR H 3 Z sz3 Z (v:=i6 A) Z Z Z) λ_ H=>RM<|SR<|lb H 3 Z eH fJ<|xu (zS (vs:=[i6 3,sb j,.string (bs []),i6 k,i6 A,i6 0,.slice none 0 0]) H 2 Z fJ Z Z Z ⟨Z,Z,Z,Z,Z,Z,Z,T1⟩ Z) λ_ H=>RM ?_;have H:=H.fz (.sl dF (.slice none 0 0) []) SlF.nil;cases a;exact zI<|bJ Z Z (zU eH fJ Z (Hbc H 2 Z)) ⟨.slice none 0 0,ad,ae,af,Z,H.U [8,4,5,6,7]⟩
abbrev Fd7 (f:gI->Int->Option (Cond×gI)):Prop:= ∀(p0:gI) (p1:Int) (b1:Nat) (v2:Value) (v3:Value) (v4:Value) (r:Cond×gI) (_:f p0 p1=some r) (O S:List Nat) (w:World) (_:Hd O w w S [.own Rp.str v2 9 p0.r.Phases,.own fK v3 207 p0.r.Moves,.own eG v4 211 p0.r.Rules,.blk b1 [sb p0.text,i6 p0.at_,i6 p0.now.kind,i6 p0.now.at_,i6 p0.now.n,sb p0.now.text,v2,v3,v4] 156,.fz (.at 2 0 ((Fl.arr 7 Fl.str).f yT)),.fz (.gi 4)]),
  Cl 198 [gQ b1,i6 p1] w λe w'=> ∃u11 u12 u13 u14,e= .returned (.agg [i6 r.1.Kind,sb r.1.Name,sb r.1.Other,i6 r.1.Op,i6 r.1.N,i6 r.1.Frames,u11].toArray)/\Hd O w w' S [jQ u11 r.1.Kids,.own Rp.str u12 9 r.2.r.Phases,.own fK u13 207 r.2.r.Moves,.own eG u14 211 r.2.r.Rules,.blk b1 [sb r.2.text,i6 r.2.at_,i6 r.2.now.kind,i6 r.2.now.at_,i6 r.2.now.n,sb r.2.now.text,u12,u13,u14] 156]
end Go.Proofs.YtbjofgmdhbiekaaGreatDoor.L
