/- Walks: what each function computes, for every argument; no condition but those that stand in the statements. -/
import Derived.Test.YthllgjnlmjpinaaGreatDoorRows
import Derived.Test.YthllgjnlmjpinaaGreatDoorUP
import Derived.Test.YthllgjnlmjpinaaGreatDoorXVf
import Derived.Test.YthllgjnlmjpinaaGreatDoorLfS
namespace Go.Proofs.YthllgjnlmjpinaaGreatDoor.L
open Go.RowKit Go.OB Go.Lf
set_option maxHeartbeats 4000000
abbrev En (f:FuncId):Prop:=Go.OB.Enters Tryz.prog f
theorem RN {P:Program}{N:Nat}{ops:Array Oper}{y:Code}{K:Env→World→Prop}{Q Q':Exit→Env→World→Prop}{ρ:Env}{w:World}(h: ∀ρ w,WP P N y Q ρ w→K ρ w)(n:WP P N y Q ρ w):RL P N ops (sO K Q') [] ρ w:=zK (zD (h _ _ n))
theorem CW {P:Program}{f:FuncId}{fn:Func}{c:Code}{args:List Value}{w:World}{R:Ending→World→Prop}(N:Nat)(hf:P.funcs[f]? =some fn)(h:WP P N c (aEp P fn.results R) (aOg args) w)(hb:fn.body=some c:=by exact rfl)(hN:fn.ntmps=N:=by exact rfl)(hl:Nat.ble args.length N=true:=by exact rfl):Calls P f args.toArray w R:=jS N hf hb hN hl h
theorem mt {W:List Nat}{ρ ρ':Env}{G:Type}{S:G→List (Nat×Value)}{B:G→Prop}(g:G)(h:B g)(hs:Sl ρ' (S g):=by repeat (first | exact yK | refine zV rfl ?_))(hf:Fr W ρ ρ':=by repeat' (first | with_reducible exact aFy | refine aQj rfl ?_ | refine aLz rfl rfl ?_)):Fr W ρ ρ'∧ ∃g,Sl ρ' (S g)∧B g:=⟨hf,g,hs,h⟩
theorem ml {W:List Nat}{ρ ρ':Env}{G:Type}{S:G→List (Nat×Value)}{B:G→Prop}{C:G→Prop}{μ:G→Nat}{n:Nat}(g:G)(h:B g)(c:C g)(hs:Sl ρ' (S g):=by repeat (first | exact yK | refine zV rfl ?_))(hn:μ g<n:=by exact Nat.lt_succ_self _)(hf:Fr W ρ ρ':=by repeat' (first | with_reducible exact aFy | refine aQj rfl ?_ | refine aLz rfl rfl ?_)):Fr W ρ ρ'∧ ∃g,Sl ρ' (S g)∧(B g∧C g)∧μ g<n:=⟨hf,g,hs,⟨h,c⟩,hn⟩
def rg:List Nat→List Nat
 | a :: n :: l=>List.range' a n++rg l
 | _=>[]
theorem lpb {γ β:Type}{B body:(γ→Option β)→γ→Option β}{n:Nat}{g:γ}{r:β}(e:B=body)(h:fK B n g=some r): ∃m,n=m+1∧body (fK B m) g=some r:=by
 obtain ⟨m,a,b⟩:=loopN_pos h;subst e;exact ⟨m,a,b⟩
section
variable {P:Program} {N:Nat} {ops:Array Oper} {Q Q':Exit→Env→World→Prop} {rest:List Oper} {ρ:Env} {w:World} {d:Nat} {op:Op} {ty:TypeId} {pos:String} {af:Array Edge} {gd:Option (Nat×Bool)}
theorem WS {K:Env→World→Prop}{y:Code}(h: ∀ρ w,WP P N y Q ρ w→K ρ w)(n:WP P N y Q ρ w):WP P N .skip (sO K Q') ρ w:=yM (zD (h _ _ n))
theorem RLb {β:Type}{b:Bool}{k:Bool→Option β}{r:β}(a:gK b k=some r)(hd:Do P ⟨some d,op,ty,pos,af,gd⟩ ρ w (.bool b) w)(n: ∀x,k x=some r→RL P N ops Q rest (upd ρ d (.bool x)) w)(hw:dA N ops ρ ⟨some d,op,ty,pos,af,gd⟩=true:=by exact rfl)(c:Nat.blt d N=true:=by exact rfl):RL P N ops Q (⟨some d,op,ty,pos,af,gd⟩ :: rest) ρ w:=wI hw c hd (n b a)
theorem RLi {β:Type}{b:Int}{kk:IntKind}{k:Int→Option β}{r:β}(a:gK b k=some r)(hd:Do P ⟨some d,op,ty,pos,af,gd⟩ ρ w (.int kk b) w)(n: ∀x,k x=some r→RL P N ops Q rest (upd ρ d (.int kk x)) w)(hw:dA N ops ρ ⟨some d,op,ty,pos,af,gd⟩=true:=by exact rfl)(c:Nat.blt d N=true:=by exact rfl):RL P N ops Q (⟨some d,op,ty,pos,af,gd⟩ :: rest) ρ w:=wI hw c hd (n b a)
theorem WI {β:Type}{b:Bool}{x y:Option β}{r:β}{c:Operand}{s t:Code}(a:gU b x y=some r)(hc:ev ρ c= .bool b)(ht:x=some r→WP P N s Q ρ w)(hf:y=some r→WP P N t Q ρ w):WP P N (.cond c s t) Q ρ w:=vT hc (fun c=>ht (aDx c a)) (fun c=>hf (aEi c a))
theorem RI {β:Type}{b:Bool}{x y:Option β}{r:β}{z:Operand}(a:gU b x y=some r)(hx:ev ρ z= .bool b)(ht:x=some r→RL P N ops Q rest (upd ρ d (.bool true)) w)(hf:y=some r→RL P N ops Q rest (upd ρ d (.bool false)) w)(hw:dA N ops ρ ⟨some d,.move z,ty,pos,af,gd⟩=true:=by exact rfl)(e:Nat.blt d N=true:=by exact rfl):RL P N ops Q (⟨some d,.move z,ty,pos,af,gd⟩ :: rest) ρ w:=aKj hw e hx (fun c=>ht (aDx c a)) (fun c=>hf (aEi c a))
theorem RC {f:FuncId}{args:Array Operand}{at_:Array TypeId}{vs:List Value}{v:Value}{O c S:List Nat}{b:World}{l:List Th}(he:Go.OB.Enters P f)(hc:Calls P f vs.toArray w fun e a=>e= .returned v∧Hd c w a [] [])(H:Hd O b w S l)(k: ∀a,Hd O b a S l→RL P N ops Q rest (upd ρ d v) a)(ha:args.toList.map (ev ρ)=vs:=by exact rfl)(hw:dA N ops ρ ⟨some d,.call {callee:= .value (.func f),args:=args,argTypes:=at_},ty,pos,af,gd⟩=true:=by exact rfl)(h:Nat.blt d N=true:=by exact rfl):RL P N ops Q (⟨some d,.call {callee:= .value (.func f),args:=args,argTypes:=at_},ty,pos,af,gd⟩ :: rest) ρ w:=by
 refine yJ hw h (yD he ha) hc ?_;rintro _ a ⟨rfl,G⟩;exact ⟨_,rfl,k _ (H.step G.only)⟩
end
abbrev Cl (f:Nat)(a:List Value)(w:World)(R:Ending→World→Prop):Prop:=Calls Tryz.prog f a.toArray w R
abbrev i6 (n:Int):Value:= .int .i64 n
abbrev sb (s:Str):Value:= .string (bs s)
abbrev f1 {α:Type}(r:Rp α)(v:Value)(l:List α):Th:= .fz (.sl r v l)
theorem Hbc {O S:List Nat}{a w:World}{l:List Th}{b:Nat}{T:TypeId}{cs:List Value}(H:Hd O a w S l)(i:Nat)(h:l[i]? =some (.blk b cs T)):Cells w ⟨b,0,none⟩ cs:=Blk.cells (H.item h)
theorem Hbg {O S:List Nat}{a w:World}{l:List Th}{b:Nat}{T:TypeId}{cs:List Value}{v:Value}(H:Hd O a w S l)(i j:Nat)(h:l[i]? =some (.blk b cs T))(c:cs[j]? =some v):w.cell? ⟨b,0+j,none⟩=some v:=Cells.get (Blk.cells (H.item h)) c
theorem XP {P:Program}{I:World→Prop}{N:Nat}{ops:Array Oper}{κ:List MxM.Kd}{K:MxM.Mm→Env→World→Prop}{k:Nat}{M:MxM.Mm}{σ:List Nat}{rest:List Oper}{ρ:Env}{w:World}{d:Nat}{ty:TypeId}{pos:String}{af:Array Edge}{g:Option (Nat×Bool)}{v:Value}{op:Op}(h: ∀a,I a→Do P ⟨some d,op,ty,pos,af,g⟩ ρ a v a)(n:MxM.XL P I N ops κ K M σ rest (upd ρ d v) w)(hk:MxM.kdOf κ k= .pure:=by exact rfl)(hw:dA N ops ρ ⟨some d,op,ty,pos,af,g⟩=true:=by exact rfl)(hd:Nat.blt d N=true:=by exact rfl):MxM.XL P I N ops κ K M (k :: σ) (⟨some d,op,ty,pos,af,g⟩ :: rest) ρ w:=MxM.XL_pure hk hw hd h n
theorem XO {P:Program}{I:World→Prop}{N:Nat}{ops:Array Oper}{κ:List MxM.Kd}{K:MxM.Mm→Env→World→Prop}{k:Nat}{M:MxM.Mm}{σ:List Nat}{rest:List Oper}{ρ:Env}{w:World}{d:Nat}{ty:TypeId}{pos:String}{af:Array Edge}{g:Option (Nat×Bool)}{op:Op}(n:MxM.XL P I N ops κ K M σ rest (upd ρ d undef) w)(hk:MxM.kdOf κ k= .pure:=by exact rfl)(hw:dA N ops ρ ⟨some d,op,ty,pos,af,g⟩=false:=by exact rfl)(hd:Nat.blt d N=true:=by exact rfl):MxM.XL P I N ops κ K M (k :: σ) (⟨some d,op,ty,pos,af,g⟩ :: rest) ρ w:=MxM.XL_offp hk hw hd n
theorem XM {P:Program}{I:World→Prop}{N:Nat}{ops:Array Oper}{κ:List MxM.Kd}{K:MxM.Mm→Env→World→Prop}{k:Nat}{M:MxM.Mm}{σ:List Nat}{rest:List Oper}{ρ:Env}{w:World}{d:Nat}{ty:TypeId}{pos:String}{af:Array Edge}{g:Option (Nat×Bool)}{x:Operand}(v:Value)(n:MxM.XL P I N ops κ K M σ rest (upd ρ d v) w)(hx:ev ρ x=v:=by exact rfl)(hk:MxM.kdOf κ k= .pure:=by exact rfl)(hw:dA N ops ρ ⟨some d,.move x,ty,pos,af,g⟩=true:=by exact rfl)(hd:Nat.blt d N=true:=by exact rfl):MxM.XL P I N ops κ K M (k :: σ) (⟨some d,.move x,ty,pos,af,g⟩ :: rest) ρ w:=MxM.XL_pure hk hw hd (fun _ _=>bG hx) n
theorem XR {P:Program}{c:World}{e:List Nat}{N:Nat}{ops:Array Oper}{κ:List MxM.Kd}{K:MxM.Mm→Env→World→Prop}{k:Nat}{M:MxM.Mm}{σ:List Nat}{rest:List Oper}{ρ:Env}{w:World}{d:Nat}{ty:TypeId}{pos:String}{af:Array Edge}{g:Option (Nat×Bool)}{t:TypeId}{x:Operand}{O S:List Nat}{f:World}{l:List Th}{b:Nat}{T:TypeId}{cs:List Value}{v:Value}(o:cZ P t)(H:Hd O f w S l)(i j:Nat)(h:l[i]? =some (.blk b cs T))(m:cs[j]? =some v)(n:MxM.XL P (fun a=>Only e c a) N ops κ K M σ rest (upd ρ d v) w)(hx:ev ρ x= .pointer (some ⟨b,0+j,none⟩):=by exact rfl)(hk:MxM.kdOf κ k= .read:=by exact rfl)(hw:dA N ops ρ ⟨some d,.load t x,ty,pos,af,g⟩=true:=by exact rfl)(hd:Nat.blt d N=true:=by exact rfl):MxM.XL P (fun a=>Only e c a) N ops κ K M (k :: σ) (⟨some d,.load t x,ty,pos,af,g⟩ :: rest) ρ w:=MxM.xY oS hk hw hd (fun _ p=>yS o hx (Hbg (H.sees p) i j h m)) n
theorem Ld {P:Program}{N:Nat}{ops:Array Oper}{Q:Exit→Env→World→Prop}{rest:List Oper}{ρ:Env}{w:World}{d:Nat}{t ty:TypeId}{x:Operand}{pos:String}{af:Array Edge}{g:Option (Nat×Bool)}{O S:List Nat}{a:World}{l:List Th}{b:Nat}{T:TypeId}{cs:List Value}{v:Value}(o:cZ P t)(H:Hd O a w S l)(i j:Nat)(h:l[i]? =some (.blk b cs T))(c:cs[j]? =some v)(k:RL P N ops Q rest (upd ρ d v) w)(hx:ev ρ x= .pointer (some ⟨b,0+j,none⟩):=by exact rfl)(hw:dA N ops ρ ⟨some d,.load t x,ty,pos,af,g⟩=true:=by exact rfl)(hd:Nat.blt d N=true:=by exact rfl):RL P N ops Q (⟨some d,.load t x,ty,pos,af,g⟩ :: rest) ρ w:=zH (yS o hx (Hbg H i j h c)) k hw hd
theorem fQ {f:FuncId}{fn:Func}(h:Tryz.prog.funcs[f]? =some fn)(a:fn.body.isSome=true:=by exact rfl)(b:(fn.name== "runtime.NumGoroutine")=false:=by kernel_rfl):Go.OB.Enters Tryz.prog f:=⟨_,h,a,b⟩
theorem u2:Tryz.prog.underlying 2=some (.int .i64):=Tryz.underlying2
theorem u3:Tryz.prog.underlying 3=some (.int .i64):=Tryz.underlying3
theorem u4:Tryz.prog.underlying 4=some .bool:=Tryz.underlying4
theorem u5:Tryz.prog.underlying 5=some (.int .u8):=Tryz.underlying5
theorem u9:Tryz.prog.underlying 9=some .string:=Tryz.underlying9
theorem u22:Tryz.prog.underlying 22=some (.slice 47):=Tryz.underlying22
theorem u23:Tryz.prog.underlying 23=some (.slice 9):=Tryz.underlying23
theorem u24:Tryz.prog.underlying 24=some (.slice 117):=Tryz.underlying24
theorem u25:Tryz.prog.underlying 25=some (.slice 112):=Tryz.underlying25
theorem u28:Tryz.prog.underlying 28=some (.slice 86):=Tryz.underlying28
theorem u31:Tryz.prog.underlying 31=some (.slice 38):=Tryz.underlying31
theorem u36:Tryz.prog.underlying 36=some (.slice 3):=Tryz.underlying36
theorem u45:Tryz.prog.underlying 45=some (.slice 92):=Tryz.underlying45
theorem u50:Tryz.prog.underlying 50=some (.slice 5):=Tryz.underlying50
theorem u71:Tryz.prog.underlying 71=some (.map 9 3):=Tryz.underlying71
theorem u78:Tryz.prog.underlying 78=some (.int .u16):=Tryz.underlying78
theorem u80:Tryz.prog.underlying 80=some (.array 64 78):=Tryz.underlying80
theorem u88:Tryz.prog.underlying 88=some (.slice 94):=Tryz.underlying88
theorem u97:Tryz.prog.underlying 97=some (.slice 103):=Tryz.underlying97
theorem aSb:Tryz.prog.underlying 100=some (.slice 22):=Tryz.underlying100
theorem aDs:Tryz.prog.underlying 108=some (.slice 110):=Tryz.underlying108
theorem tN:Tryz.prog.underlying 125=some (.slice 4):=Tryz.underlying125
theorem u134:Tryz.prog.underlying 134=some (.int .u64):=Tryz.underlying134
theorem u142:Tryz.prog.underlying 142=some (.pointer 92):=Tryz.underlying142
theorem aMh:Tryz.prog.underlying 147=some (.int .u64):=Tryz.underlying147
theorem aDv:Tryz.prog.underlying 160=some (.slice 224):=Tryz.underlying160
theorem u165:Tryz.prog.underlying 165=some (.array 4 78):=Tryz.underlying165
theorem aQy:Tryz.prog.underlying 179=some (.slice 215):=Tryz.underlying179
theorem aAd:Tryz.prog.underlying 180=some (.slice 212):=Tryz.underlying180
theorem aNh:Tryz.prog.underlying 258=some (.array 3 3):=Tryz.underlying258
theorem sz3:Sz Tryz.prog 3 1:=by unfold Sz; kernel_rfl
theorem sz4:Sz Tryz.prog 4 1:=by unfold Sz; kernel_rfl
theorem sz9:Sz Tryz.prog 9 1:=by unfold Sz; kernel_rfl
theorem sz22:Sz Tryz.prog 22 1:=by unfold Sz; kernel_rfl
theorem sz23:Sz Tryz.prog 23 1:=by unfold Sz; kernel_rfl
theorem vO:Sz Tryz.prog 27 3:=by unfold Sz; kernel_rfl
theorem rZ:Sz Tryz.prog 30 5:=by unfold Sz; kernel_rfl
theorem aQn:Sz Tryz.prog 36 1:=by unfold Sz; kernel_rfl
theorem aBt:Sz Tryz.prog 38 4:=by unfold Sz; kernel_rfl
theorem sz45:Sz Tryz.prog 45 1:=by unfold Sz; kernel_rfl
theorem kD:Sz Tryz.prog 47 6:=by unfold Sz; kernel_rfl
theorem sz50:Sz Tryz.prog 50 1:=by unfold Sz; kernel_rfl
theorem jF:Sz Tryz.prog 59 2:=by unfold Sz; kernel_rfl
theorem qV:Sz Tryz.prog 78 1:=by unfold Sz; kernel_rfl
theorem aIq:Sz Tryz.prog 80 64:=by unfold Sz; kernel_rfl
theorem sz83:Sz Tryz.prog 83 1:=by unfold Sz; kernel_rfl
theorem aCd:Sz Tryz.prog 86 2:=by unfold Sz; kernel_rfl
theorem sz88:Sz Tryz.prog 88 1:=by unfold Sz; kernel_rfl
theorem aRr:Sz Tryz.prog 90 2:=by unfold Sz; kernel_rfl
theorem jY:Sz Tryz.prog 92 4:=by unfold Sz; kernel_rfl
theorem kT:Sz Tryz.prog 94 3:=by unfold Sz; kernel_rfl
theorem aDc:Sz Tryz.prog 103 3:=by unfold Sz; kernel_rfl
theorem dY:Sz Tryz.prog 110 7:=by unfold Sz; kernel_rfl
theorem rJ:Sz Tryz.prog 112 8:=by unfold Sz; kernel_rfl
theorem aAo:Sz Tryz.prog 117 9:=by unfold Sz; kernel_rfl
theorem sz125:Sz Tryz.prog 125 1:=by unfold Sz; kernel_rfl
theorem sz160:Sz Tryz.prog 160 1:=by unfold Sz; kernel_rfl
theorem sz179:Sz Tryz.prog 179 1:=by unfold Sz; kernel_rfl
theorem sz180:Sz Tryz.prog 180 1:=by unfold Sz; kernel_rfl
theorem kY:Sz Tryz.prog 199 7:=by unfold Sz; kernel_rfl
theorem aCz:Sz Tryz.prog 212 1:=by unfold Sz; kernel_rfl
theorem aKi:Sz Tryz.prog 215 3:=by unfold Sz; kernel_rfl
theorem qR:Sz Tryz.prog 224 2:=by unfold Sz; kernel_rfl
theorem sz258:Sz Tryz.prog 258 3:=by unfold Sz; kernel_rfl
theorem fF:cZ Tryz.prog 3:=by unfold cZ; kernel_rfl
theorem qC:cZ Tryz.prog 4:=by unfold cZ; kernel_rfl
theorem dL:cZ Tryz.prog 9:=by unfold cZ; kernel_rfl
theorem one22:cZ Tryz.prog 22:=by unfold cZ; kernel_rfl
theorem aZ:cZ Tryz.prog 23:=by unfold cZ; kernel_rfl
theorem aUz:cZ Tryz.prog 24:=by unfold cZ; kernel_rfl
theorem aAj:cZ Tryz.prog 25:=by unfold cZ; kernel_rfl
theorem aAn:cZ Tryz.prog 28:=by unfold cZ; kernel_rfl
theorem kP:cZ Tryz.prog 36:=by unfold cZ; kernel_rfl
theorem uQ:cZ Tryz.prog 45:=by unfold cZ; kernel_rfl
theorem aPi:cZ Tryz.prog 50:=by unfold cZ; kernel_rfl
theorem aGn:cZ Tryz.prog 71:=by unfold cZ; kernel_rfl
theorem aCx:cZ Tryz.prog 78:=by unfold cZ; kernel_rfl
theorem one83:cZ Tryz.prog 83:=by unfold cZ; kernel_rfl
theorem jU:cZ Tryz.prog 88:=by unfold cZ; kernel_rfl
theorem aBg:cZ Tryz.prog 108:=by unfold cZ; kernel_rfl
theorem vK:cZ Tryz.prog 125:=by unfold cZ; kernel_rfl
theorem aId:cZ Tryz.prog 160:=by unfold cZ; kernel_rfl
theorem aSh:cZ Tryz.prog 179:=by unfold cZ; kernel_rfl
theorem aQq:cZ Tryz.prog 180:=by unfold cZ; kernel_rfl
theorem jL:cZ Tryz.prog 212:=by unfold cZ; kernel_rfl
theorem pI:Agg Tryz.prog 27:=by unfold Agg; kernel_rfl
theorem jI:Agg Tryz.prog 30:=by unfold Agg; kernel_rfl
theorem agg38:Agg Tryz.prog 38:=by unfold Agg; kernel_rfl
theorem kW:Agg Tryz.prog 47:=by unfold Agg; kernel_rfl
theorem pW:Agg Tryz.prog 59:=by unfold Agg; kernel_rfl
theorem aPo:Agg Tryz.prog 80:=by unfold Agg; kernel_rfl
theorem aSk:Agg Tryz.prog 86:=by unfold Agg; kernel_rfl
theorem aGh:Agg Tryz.prog 90:=by unfold Agg; kernel_rfl
theorem aBx:Agg Tryz.prog 92:=by unfold Agg; kernel_rfl
theorem uS:Agg Tryz.prog 94:=by unfold Agg; kernel_rfl
theorem agg103:Agg Tryz.prog 103:=by unfold Agg; kernel_rfl
theorem bM:Agg Tryz.prog 110:=by unfold Agg; kernel_rfl
theorem aGf:Agg Tryz.prog 112:=by unfold Agg; kernel_rfl
theorem aLm:Agg Tryz.prog 117:=by unfold Agg; kernel_rfl
theorem qW:Agg Tryz.prog 199:=by unfold Agg; kernel_rfl
theorem agg215:Agg Tryz.prog 215:=by unfold Agg; kernel_rfl
theorem aGz:Agg Tryz.prog 224:=by unfold Agg; kernel_rfl
theorem agg258:Agg Tryz.prog 258:=by unfold Agg; kernel_rfl
theorem zero3:Go.OB.Zero Tryz.prog 3 ([i6 0]):=by unfold Go.OB.Zero; kernel_rfl
theorem zero23:Go.OB.Zero Tryz.prog 23 ([.slice none 0 0]):=by unfold Go.OB.Zero; kernel_rfl
theorem zero36:Go.OB.Zero Tryz.prog 36 ([.slice none 0 0]):=by unfold Go.OB.Zero; kernel_rfl
theorem zero38:Go.OB.Zero Tryz.prog 38 ([.string (bs []),.bool false,i6 0,.slice none 0 0]):=by unfold Go.OB.Zero; kernel_rfl
theorem aDk:Go.OB.Zero Tryz.prog 47 ([.string (bs []),.string (bs []),i6 0,i6 0,i6 0,.slice none 0 0]):=by unfold Go.OB.Zero; kernel_rfl
theorem aBf:Go.OB.Zero Tryz.prog 59 ([i6 0,i6 0]):=by unfold Go.OB.Zero; kernel_rfl
theorem aRg:Go.OB.Zero Tryz.prog 80 ((Fl.arr 64 (Fl.int .u16)).f (Arr.rep 64 0:Arr 64 Int)):=by unfold Go.OB.Zero; kernel_rfl
theorem zero83:Go.OB.Zero Tryz.prog 83 ([.nilFunc]):=by unfold Go.OB.Zero; kernel_rfl
theorem aRu:Go.OB.Zero Tryz.prog 86 ([.string (bs []),i6 0]):=by unfold Go.OB.Zero; kernel_rfl
theorem aGb:Go.OB.Zero Tryz.prog 92 ([.string (bs []),i6 0,.slice none 0 0,i6 0]):=by unfold Go.OB.Zero; kernel_rfl
theorem aAy:Go.OB.Zero Tryz.prog 94 ([i6 0,i6 0,i6 0]):=by unfold Go.OB.Zero; kernel_rfl
theorem zero103:Go.OB.Zero Tryz.prog 103 ([.slice none 0 0,.slice none 0 0,i6 0]):=by unfold Go.OB.Zero; kernel_rfl
theorem wO:Go.OB.Zero Tryz.prog 110 ([i6 0,.string (bs []),.string (bs []),i6 0,i6 0,i6 0,.slice none 0 0]):=by unfold Go.OB.Zero; kernel_rfl
theorem aLw:Go.OB.Zero Tryz.prog 112 ([.string (bs []),i6 0,.string (bs []),.string (bs []),i6 0,i6 0,i6 0,.slice none 0 0]):=by unfold Go.OB.Zero; kernel_rfl
theorem aKr:Go.OB.Zero Tryz.prog 117 ([.string (bs []),.string (bs []),i6 0,.string (bs []),.string (bs []),i6 0,i6 0,i6 0,.slice none 0 0]):=by unfold Go.OB.Zero; kernel_rfl
theorem zero125:Go.OB.Zero Tryz.prog 125 ([.slice none 0 0]):=by unfold Go.OB.Zero; kernel_rfl
theorem aUn:Go.OB.Zero Tryz.prog 199 ([.bool false,.bool false,.bool false,.bool false,.bool false,i6 0,i6 0]):=by unfold Go.OB.Zero; kernel_rfl
theorem aTd:Go.OB.Zero Tryz.prog 215 ([i6 0,i6 0,.nilIface]):=by unfold Go.OB.Zero; kernel_rfl
theorem aDb:Go.OB.Zero Tryz.prog 224 ([i6 0,.bool false]):=by unfold Go.OB.Zero; kernel_rfl
theorem zero258:Go.OB.Zero Tryz.prog 258 ((Fl.arr 3 (Fl.int .i64)).f (Arr.rep 3 0:Arr 3 Int)):=by unfold Go.OB.Zero; kernel_rfl
theorem el3:El Tryz.prog 3 1 8 ([i6 0]):=⟨by kernel_rfl,by kernel_rfl,by kernel_rfl,by decide,by decide⟩
theorem el4:El Tryz.prog 4 1 1 ([.bool false]):=⟨by kernel_rfl,by kernel_rfl,by kernel_rfl,by decide,by decide⟩
theorem el5:El Tryz.prog 5 1 1 ([.int .u8 0]):=⟨by kernel_rfl,by kernel_rfl,by kernel_rfl,by decide,by decide⟩
theorem el9:El Tryz.prog 9 1 16 ([.string (bs [])]):=⟨by kernel_rfl,by kernel_rfl,by kernel_rfl,by decide,by decide⟩
theorem el22:El Tryz.prog 22 1 24 ([.slice none 0 0]):=⟨by kernel_rfl,by kernel_rfl,by kernel_rfl,by decide,by decide⟩
theorem el38:El Tryz.prog 38 4 56 ([.string (bs []),.bool false,i6 0,.slice none 0 0]):=⟨by kernel_rfl,by kernel_rfl,by kernel_rfl,by decide,by decide⟩
theorem el47:El Tryz.prog 47 6 80 ([.string (bs []),.string (bs []),i6 0,i6 0,i6 0,.slice none 0 0]):=⟨by kernel_rfl,by kernel_rfl,by kernel_rfl,by decide,by decide⟩
theorem aRt:El Tryz.prog 92 4 56 ([.string (bs []),i6 0,.slice none 0 0,i6 0]):=⟨by kernel_rfl,by kernel_rfl,by kernel_rfl,by decide,by decide⟩
theorem el94:El Tryz.prog 94 3 24 ([i6 0,i6 0,i6 0]):=⟨by kernel_rfl,by kernel_rfl,by kernel_rfl,by decide,by decide⟩
theorem el103:El Tryz.prog 103 3 56 ([.slice none 0 0,.slice none 0 0,i6 0]):=⟨by kernel_rfl,by kernel_rfl,by kernel_rfl,by decide,by decide⟩
theorem aOy:El Tryz.prog 212 1 16 ([.nilIface]):=⟨by kernel_rfl,by kernel_rfl,by kernel_rfl,by decide,by decide⟩
theorem el215:El Tryz.prog 215 3 32 ([i6 0,i6 0,.nilIface]):=⟨by kernel_rfl,by kernel_rfl,by kernel_rfl,by decide,by decide⟩
theorem aMs:El Tryz.prog 224 2 16 ([i6 0,.bool false]):=⟨by kernel_rfl,by kernel_rfl,by kernel_rfl,by decide,by decide⟩
theorem z8_5:Z8 Tryz.prog 5:=by unfold Z8; kernel_rfl
theorem bz52:Tryz.prog.built 52 []=some ([.slice none 0 0]).toArray:=by kernel_rfl
theorem aOq:Tryz.prog.built 59 []=some ([i6 0,i6 0]).toArray:=by kernel_rfl
theorem bz80:Tryz.prog.built 80 []=some ((Fl.arr 64 (Fl.int .u16)).f (Arr.rep 64 0:Arr 64 Int)).toArray:=by kernel_rfl
theorem bz94:Tryz.prog.built 94 []=some ([i6 0,i6 0,i6 0]).toArray:=by kernel_rfl
theorem bz199:Tryz.prog.built 199 []=some ([.bool false,.bool false,.bool false,.bool false,.bool false,i6 0,i6 0]).toArray:=by kernel_rfl
theorem aMm (a:Str)(b:Bool):Tryz.prog.built 38 [(0,sb a),(1,.bool b)]=some [sb a,.bool b,i6 0,.slice none 0 0].toArray:=by kernel_rfl
theorem bt38_0_3 (a:Str)(b:Option Addr)(c d:Nat):Tryz.prog.built 38 [(0,sb a),(3,.slice b c d)]=some [sb a,.bool false,i6 0,.slice b c d].toArray:=by kernel_rfl
theorem aPl (a:Int)(b:Int):Tryz.prog.built 59 [(0,i6 a),(1,i6 b)]=some [i6 a,i6 b].toArray:=by kernel_rfl
theorem bt90_0 (a:Int):Tryz.prog.built 90 [(0,i6 a)]=some [i6 a,.slice none 0 0].toArray:=by kernel_rfl
theorem bt92_0_1 (a:Str)(b:Int)(c:Option Addr)(d e:Nat):Tryz.prog.built 92 [(0,sb a),(1,.agg [i6 b,.slice c d e].toArray)]=some [sb a,i6 b,.slice c d e,i6 0].toArray:=by kernel_rfl
theorem aPp (a:Option Addr)(b c:Nat)(d:Int)(e:Option Addr)(f h:Nat):Tryz.prog.built 182 [(0,.slice a b c),(1,i6 d),(4,.slice e f h)]=some [.slice a b c,i6 d,.slice none 0 0,.slice none 0 0,.slice e f h].toArray:=by kernel_rfl
theorem bt199_0 (a:Bool):Tryz.prog.built 199 [(0,.bool a)]=some [.bool a,.bool false,.bool false,.bool false,.bool false,i6 0,i6 0].toArray:=by kernel_rfl
theorem aNk (a:Bool)(b:Bool)(c:Bool):Tryz.prog.built 199 [(0,.bool a),(1,.bool b),(2,.bool c)]=some [.bool a,.bool b,.bool c,.bool false,.bool false,i6 0,i6 0].toArray:=by kernel_rfl
theorem aOs (a:Bool)(b:Bool)(c:Bool):Tryz.prog.built 199 [(0,.bool a),(2,.bool b),(3,.bool c)]=some [.bool a,.bool false,.bool b,.bool c,.bool false,i6 0,i6 0].toArray:=by kernel_rfl
theorem aPe (a:Bool)(b:Bool)(c:Bool):Tryz.prog.built 199 [(0,.bool a),(3,.bool b),(4,.bool c)]=some [.bool a,.bool false,.bool false,.bool b,.bool c,i6 0,i6 0].toArray:=by kernel_rfl
theorem aIp (a:Bool)(b:Bool)(c:Int)(d:Int):Tryz.prog.built 199 [(3,.bool a),(4,.bool b),(5,i6 c),(6,i6 d)]=some [.bool false,.bool false,.bool false,.bool a,.bool b,i6 c,i6 d].toArray:=by kernel_rfl
theorem aOp (a:Bool)(b:Int)(c:Int):Tryz.prog.built 199 [(4,.bool a),(5,i6 b),(6,i6 c)]=some [.bool false,.bool false,.bool false,.bool false,.bool a,i6 b,i6 c].toArray:=by kernel_rfl
theorem aEe (a:Int)(b:Int):Tryz.prog.built 199 [(5,i6 a),(6,i6 b)]=some [.bool false,.bool false,.bool false,.bool false,.bool false,i6 a,i6 b].toArray:=by kernel_rfl
theorem aOv (a:Option Nat)(b:Option Addr)(c d:Nat)(e:Option Nat):Tryz.prog.built 209 [(0,.map a),(2,.slice b c d),(3,.map e)]=some [.map a,.slice none 0 0,.slice b c d,.map e].toArray:=by kernel_rfl
theorem aOn (a:Int)(b:Int)(a2T:TypeId)(c:Value):Tryz.prog.built 215 [(0,i6 a),(1,i6 b),(2,.iface a2T c)]=some [i6 a,i6 b,.iface a2T c].toArray:=by kernel_rfl
theorem bt218_0 (a:Option Addr)(b c:Nat):Tryz.prog.built 218 [(0,.slice a b c)]=some [.slice a b c,.slice none 0 0,.slice none 0 0].toArray:=by kernel_rfl
theorem bt224_0_1 (a:Int)(b:Bool):Tryz.prog.built 224 [(0,i6 a),(1,.bool b)]=some [i6 a,.bool b].toArray:=by kernel_rfl
theorem aSt (a:Int):Tryz.prog.built 239 [(0,i6 a)]=some [i6 a].toArray:=by kernel_rfl
theorem aMz (a:Int)(b:Int)(c:Int):Tryz.prog.built 241 [(0,i6 a),(1,i6 b),(2,i6 c)]=some [i6 a,i6 b,i6 c].toArray:=by kernel_rfl
theorem aEy (a:Int)(b:Int)(c:Int)(d:Int)(e:Int):Tryz.prog.built 243 [(0,i6 a),(1,i6 b),(2,i6 c),(3,i6 d),(4,i6 e)]=some [i6 a,i6 b,i6 c,i6 d,i6 e].toArray:=by kernel_rfl
theorem aPh (a:Int)(b:Int)(c:Int):Tryz.prog.built 246 [(0,i6 a),(1,i6 b),(2,i6 c)]=some [i6 a,i6 b,i6 c,.slice none 0 0].toArray:=by kernel_rfl
theorem bt248_0 (a:Int):Tryz.prog.built 248 [(0,i6 a)]=some [i6 a].toArray:=by kernel_rfl
theorem bt250_0 (a:Int):Tryz.prog.built 250 [(0,i6 a)]=some [i6 a].toArray:=by kernel_rfl
theorem bt253_0 (a0T:TypeId)(a:Value):Tryz.prog.built 253 [(0,.iface a0T a)]=some [.iface a0T a].toArray:=by kernel_rfl
theorem bt256_0_1 (a:Option Addr)(b c:Nat)(d:Bool):Tryz.prog.built 256 [(0,.slice a b c),(1,.bool d)]=some [.slice a b c,.bool d].toArray:=by kernel_rfl
theorem vM (a0T:TypeId)(a:Value)(b:Int)(c:Int):Tryz.prog.built 260 [(0,.iface a0T a),(1,i6 b),(2,i6 c)]=some [.iface a0T a,i6 b,i6 c,.slice none 0 0,i6 0,i6 0,i6 0].toArray:=by kernel_rfl
theorem bt263_0_1 (a0T:TypeId)(a:Value)(a1T:TypeId)(b:Value):Tryz.prog.built 263 [(0,.iface a0T a),(1,.iface a1T b)]=some [.iface a0T a,.iface a1T b,i6 0,.bool false].toArray:=by kernel_rfl
theorem bt266_0 (a0T:TypeId)(a:Value):Tryz.prog.built 266 [(0,.iface a0T a)]=some [.iface a0T a,i6 0,.bool false].toArray:=by kernel_rfl
abbrev gX (b:Nat):Value:= .pointer (some ⟨b,0,none⟩)
def FAt (t i m:Nat):Prop:= ∀{ρ:Env} {w:World} {d:Option Tmp} {x:Operand} {ty:TypeId} {pos:String} {af:Array Edge} {g:Option (Nat×Bool)} {b o:Nat} (_:ev ρ x= .pointer (some ⟨b,o,none⟩)),Do Tryz.prog ⟨d,.fieldAddr t x i,ty,pos,af,g⟩ ρ w (.pointer (some ⟨b,o+m,none⟩)) w
theorem faO {t i m:Nat}(n:Nat)(h:aGl Tryz.prog t i=some (m,some n):=by kernel_rfl)(hn:n≠0:=by decide):FAt t i m:=fun hx=>aIw h hn hx
theorem qX:FAt 27 0 0:=faO 1
theorem aLx:FAt 27 1 1:=faO 1
theorem sD:FAt 27 2 2:=faO 1
theorem fa30_0:FAt 30 0 0:=faO 1
theorem vW:FAt 30 1 1:=faO 1
theorem vZ:FAt 30 2 2:=faO 1
theorem sG:FAt 30 3 3:=faO 1
theorem aHh:FAt 30 4 4:=faO 1
theorem aRd:FAt 38 0 0:=faO 1
theorem fa38_1:FAt 38 1 1:=faO 1
theorem aEa:FAt 38 2 2:=faO 1
theorem fa38_3:FAt 38 3 3:=faO 1
theorem aBa:FAt 47 0 0:=faO 1
theorem aSd:FAt 47 1 1:=faO 1
theorem nH:FAt 47 2 2:=faO 1
theorem vP:FAt 47 3 3:=faO 1
theorem vH:FAt 47 4 4:=faO 1
theorem mF:FAt 47 5 5:=faO 1
theorem uK:FAt 52 0 0:=faO 1
theorem fa59_0:FAt 59 0 0:=faO 1
theorem fa59_1:FAt 59 1 1:=faO 1
theorem aEk:FAt 86 0 0:=faO 1
theorem vS:FAt 86 1 1:=faO 1
theorem aKq:FAt 90 0 0:=faO 1
theorem aA:FAt 90 1 1:=faO 1
theorem pV:FAt 92 0 0:=faO 1
theorem jA:FAt 92 1 1:=faO 2
theorem aMj:FAt 92 2 3:=faO 1
theorem uJ:FAt 94 0 0:=faO 1
theorem pU:FAt 94 1 1:=faO 1
theorem vX:FAt 94 2 2:=faO 1
theorem rP:FAt 103 0 0:=faO 1
theorem aKx:FAt 103 1 1:=faO 1
theorem nX:FAt 110 0 0:=faO 1
theorem jZ:FAt 110 1 1:=faO 1
theorem aFk:FAt 110 2 2:=faO 1
theorem aFm:FAt 110 3 3:=faO 1
theorem uB:FAt 110 4 4:=faO 1
theorem rG:FAt 110 5 5:=faO 1
theorem uI:FAt 110 6 6:=faO 1
theorem aCt:FAt 112 0 0:=faO 1
theorem aFs:FAt 112 1 1:=faO 7
theorem aTu:FAt 117 0 0:=faO 1
theorem aSm:FAt 117 1 1:=faO 1
theorem aFw:FAt 117 2 2:=faO 7
theorem aTt:FAt 182 0 0:=faO 1
theorem aFt:FAt 182 2 2:=faO 1
theorem aMb:FAt 182 3 3:=faO 1
theorem aCn:FAt 182 4 4:=faO 1
theorem aTh:FAt 199 0 0:=faO 1
theorem aTf:FAt 199 1 1:=faO 1
theorem aUf:FAt 199 2 2:=faO 1
theorem aSs:FAt 199 3 3:=faO 1
theorem aUl:FAt 199 4 4:=faO 1
theorem fa199_5:FAt 199 5 5:=faO 1
theorem fa199_6:FAt 199 6 6:=faO 1
theorem aBu:FAt 209 0 0:=faO 1
theorem aFv:FAt 209 1 1:=faO 1
theorem fa209_2:FAt 209 2 2:=faO 1
theorem aTz:FAt 209 3 3:=faO 1
theorem fa215_0:FAt 215 0 0:=faO 1
theorem fa215_1:FAt 215 1 1:=faO 1
theorem fa215_2:FAt 215 2 2:=faO 1
theorem aFr:FAt 218 0 0:=faO 1
theorem aKn:FAt 218 1 1:=faO 1
theorem aFj:FAt 218 2 2:=faO 1
theorem uF:FAt 224 0 0:=faO 1
theorem aFl:FAt 224 1 1:=faO 1
theorem fa239_0:FAt 239 0 0:=faO 1
theorem fa241_0:FAt 241 0 0:=faO 1
theorem fa241_1:FAt 241 1 1:=faO 1
theorem fa241_2:FAt 241 2 2:=faO 1
theorem fa243_0:FAt 243 0 0:=faO 1
theorem fa243_1:FAt 243 1 1:=faO 1
theorem fa243_2:FAt 243 2 2:=faO 1
theorem fa243_3:FAt 243 3 3:=faO 1
theorem fa243_4:FAt 243 4 4:=faO 1
theorem fa246_0:FAt 246 0 0:=faO 1
theorem fa246_1:FAt 246 1 1:=faO 1
theorem aSq:FAt 246 2 2:=faO 1
theorem aSj:FAt 246 3 3:=faO 1
theorem fa248_0:FAt 248 0 0:=faO 1
theorem fa250_0:FAt 250 0 0:=faO 1
theorem fa253_0:FAt 253 0 0:=faO 1
theorem fa256_0:FAt 256 0 0:=faO 1
theorem fa256_1:FAt 256 1 1:=faO 1
theorem fa260_0:FAt 260 0 0:=faO 1
theorem aUe:FAt 260 1 1:=faO 1
theorem aSv:FAt 260 2 2:=faO 1
theorem wX:FAt 260 3 3:=faO 1
theorem aCg:FAt 260 4 4:=faO 3
theorem fa263_0:FAt 263 0 0:=faO 1
theorem fa263_1:FAt 263 1 1:=faO 1
theorem aLv:FAt 263 2 2:=faO 1
theorem fa263_3:FAt 263 3 3:=faO 1
theorem fa266_0:FAt 266 0 0:=faO 1
theorem aLy:FAt 266 1 1:=faO 1
theorem fa266_2:FAt 266 2 2:=faO 1
theorem en6:En 6:=fQ Tryz.func6
theorem en10:En 10:=fQ Tryz.func10
theorem en11:En 11:=fQ Tryz.func11
theorem en12:En 12:=fQ Tryz.func12
theorem en13:En 13:=fQ Tryz.func13
theorem en14:En 14:=fQ Tryz.func14
theorem en15:En 15:=fQ Tryz.func15
theorem en16:En 16:=fQ Tryz.func16
theorem en17:En 17:=fQ Tryz.func17
theorem en18:En 18:=fQ Tryz.func18
theorem en19:En 19:=fQ Tryz.func19
theorem en20:En 20:=fQ Tryz.func20
theorem en21:En 21:=fQ Tryz.func21
theorem en22:En 22:=fQ Tryz.func22
theorem en23:En 23:=fQ Tryz.func23
theorem en24:En 24:=fQ Tryz.func24
theorem en25:En 25:=fQ Tryz.func25
theorem aJa:En 26:=fQ Tryz.func26
theorem en27:En 27:=fQ Tryz.func27
theorem en28:En 28:=fQ Tryz.func28
theorem en29:En 29:=fQ Tryz.func29
theorem en30:En 30:=fQ Tryz.func30
theorem en32:En 32:=fQ Tryz.func32
theorem en33:En 33:=fQ Tryz.func33
theorem en34:En 34:=fQ Tryz.func34
theorem en35:En 35:=fQ Tryz.func35
theorem en36:En 36:=fQ Tryz.func36
theorem en37:En 37:=fQ Tryz.func37
theorem en38:En 38:=fQ Tryz.func38
theorem en39:En 39:=fQ Tryz.func39
theorem en40:En 40:=fQ Tryz.func40
theorem en41:En 41:=fQ Tryz.func41
theorem en42:En 42:=fQ Tryz.func42
theorem en43:En 43:=fQ Tryz.func43
theorem en44:En 44:=fQ Tryz.func44
theorem en45:En 45:=fQ Tryz.func45
theorem en46:En 46:=fQ Tryz.func46
theorem en47:En 47:=fQ Tryz.func47
theorem en48:En 48:=fQ Tryz.func48
theorem en49:En 49:=fQ Tryz.func49
theorem en50:En 50:=fQ Tryz.func50
theorem en51:En 51:=fQ Tryz.func51
theorem en52:En 52:=fQ Tryz.func52
theorem en53:En 53:=fQ Tryz.func53
theorem en54:En 54:=fQ Tryz.func54
theorem en55:En 55:=fQ Tryz.func55
theorem en56:En 56:=fQ Tryz.func56
theorem en57:En 57:=fQ Tryz.func57
theorem en58:En 58:=fQ Tryz.func58
theorem en59:En 59:=fQ Tryz.func59
theorem en66:En 66:=fQ Tryz.func66
theorem en67:En 67:=fQ Tryz.func67
theorem en68:En 68:=fQ Tryz.func68
theorem en69:En 69:=fQ Tryz.func69
theorem en70:En 70:=fQ Tryz.func70
theorem en71:En 71:=fQ Tryz.func71
theorem en72:En 72:=fQ Tryz.func72
theorem en73:En 73:=fQ Tryz.func73
theorem en74:En 74:=fQ Tryz.func74
theorem en75:En 75:=fQ Tryz.func75
theorem en76:En 76:=fQ Tryz.func76
theorem en77:En 77:=fQ Tryz.func77
theorem en78:En 78:=fQ Tryz.func78
theorem en79:En 79:=fQ Tryz.func79
theorem en80:En 80:=fQ Tryz.func80
theorem en81:En 81:=fQ Tryz.func81
theorem aQh:En 82:=fQ Tryz.func82
theorem en83:En 83:=fQ Tryz.func83
theorem en84:En 84:=fQ Tryz.func84
theorem en85:En 85:=fQ Tryz.func85
theorem en86:En 86:=fQ Tryz.func86
theorem aNf:En 87:=fQ Tryz.func87
theorem en88:En 88:=fQ Tryz.func88
theorem en89:En 89:=fQ Tryz.func89
theorem en90:En 90:=fQ Tryz.func90
theorem en91:En 91:=fQ Tryz.func91
theorem en92:En 92:=fQ Tryz.func92
theorem en93:En 93:=fQ Tryz.func93
theorem en94:En 94:=fQ Tryz.func94
theorem en95:En 95:=fQ Tryz.func95
theorem en96:En 96:=fQ Tryz.func96
theorem en97:En 97:=fQ Tryz.func97
theorem en98:En 98:=fQ Tryz.func98
theorem en99:En 99:=fQ Tryz.func99
theorem en101:En 101:=fQ Tryz.func101
theorem en102:En 102:=fQ Tryz.func102
theorem en103:En 103:=fQ Tryz.func103
theorem en104:En 104:=fQ Tryz.func104
theorem en105:En 105:=fQ Tryz.func105
theorem en106:En 106:=fQ Tryz.func106
theorem en107:En 107:=fQ Tryz.func107
theorem en108:En 108:=fQ Tryz.func108
theorem en109:En 109:=fQ Tryz.func109
theorem en112:En 112:=fQ Tryz.func112
theorem en113:En 113:=fQ Tryz.func113
theorem en114:En 114:=fQ Tryz.func114
theorem en115:En 115:=fQ Tryz.func115
theorem en116:En 116:=fQ Tryz.func116
theorem en117:En 117:=fQ Tryz.func117
theorem en118:En 118:=fQ Tryz.func118
theorem en119:En 119:=fQ Tryz.func119
theorem en120:En 120:=fQ Tryz.func120
theorem en121:En 121:=fQ Tryz.func121
theorem en122:En 122:=fQ Tryz.func122
theorem en123:En 123:=fQ Tryz.func123
theorem aUk:En 124:=fQ Tryz.func124
theorem en125:En 125:=fQ Tryz.func125
theorem en126:En 126:=fQ Tryz.func126
theorem en127:En 127:=fQ Tryz.func127
theorem en139:En 139:=fQ Tryz.func139
theorem en140:En 140:=fQ Tryz.func140
theorem en141:En 141:=fQ Tryz.func141
theorem en146:En 146:=fQ Tryz.func146
theorem en147:En 147:=fQ Tryz.func147
theorem en148:En 148:=fQ Tryz.func148
theorem en149:En 149:=fQ Tryz.func149
theorem en150:En 150:=fQ Tryz.func150
theorem en151:En 151:=fQ Tryz.func151
theorem aUx:En 158:=fQ Tryz.func158
theorem en163:En 163:=fQ Tryz.func163
theorem en164:En 164:=fQ Tryz.func164
theorem en166:En 166:=fQ Tryz.func166
theorem en167:En 167:=fQ Tryz.func167
theorem en168:En 168:=fQ Tryz.func168
theorem en172:En 172:=fQ Tryz.func172
theorem en175:En 175:=fQ Tryz.func175
theorem en176:En 176:=fQ Tryz.func176
theorem en186:En 186:=fQ Tryz.func186
theorem en187:En 187:=fQ Tryz.func187
theorem en209:En 209:=fQ Tryz.func209
theorem en211:En 211:=fQ Tryz.func211
theorem en212:En 212:=fQ Tryz.func212
theorem en213:En 213:=fQ Tryz.func213
theorem aPt:En 214:=fQ Tryz.func214
theorem en216:En 216:=fQ Tryz.func216
theorem en217:En 217:=fQ Tryz.func217
theorem en219:En 219:=fQ Tryz.func219
theorem en221:En 221:=fQ Tryz.func221
theorem en223:En 223:=fQ Tryz.func223
theorem en225:En 225:=fQ Tryz.func225
theorem en226:En 226:=fQ Tryz.func226
theorem en228:En 228:=fQ Tryz.func228
theorem en230:En 230:=fQ Tryz.func230
theorem en232:En 232:=fQ Tryz.func232
theorem en234:En 234:=fQ Tryz.func234
theorem mixed:Tryz.prog.follows .mixedOrders=true:=by kernel_rfl
theorem aIn (b:Int)(c:Int)(d:Int)(r:Bool)(a:Fac b c d=some r)(O S:List Nat)(w:World)(H:Hd O w w S []):
  Cl 26 [i6 b,i6 c,i6 d] w fun e h=>e= .returned (.bool r)∧Hd O w h S []:=by
 unfold Fac at a;refine CW 15 Tryz.func26 ?_;refine zB fun l i=>zA<| zG (.bool false)<| RN i ?_;obtain ⟨j,a,k⟩:=zC a;refine zW (rg [6,9]) (fun (g:Unit)=>[(6,.bool j)]) (fun g wl=>Hd O w wl S []) ?_ ?_;refine zA<| zF (i6 b)<| zF (i6 c)<| RLb a (aC rfl rfl) fun m a=>RI a rfl (fun a=>?_) (fun a=>?_);refine zF (i6 b)<| zF (i6 d)<| RLb a (kU rfl rfl) fun f a=>zH (yB (v:= .bool f) rfl rfl)<| zG (.bool f) ?_;obtain rfl:=gI a;exact zK<| zD<| mt () (H.pick []);refine zU<| zU<| zU<| zH (zZ (v:= .bool false) rfl rfl)<| zG (.bool false) ?_;obtain rfl:=gI a;exact zK<| zD<| mt () (H.pick []);rintro _ ρ n H;have a:=k;obtain rfl:=gI a;exact zN<| gW rfl rfl ⟨rfl,H.pick []⟩
theorem aSi (b:Int)(c:Int)(d:Int)(r:Bool)(a:Fai b c d=some r)(O S:List Nat)(w:World)(H:Hd O w w S []):
  Cl 82 [i6 b,i6 c,i6 d] w fun e h=>e= .returned (.bool r)∧Hd O w h S []:=by
 unfold Fai at a;refine CW 15 Tryz.func82 ?_;refine zB fun l i=>zA<| zG (.bool false)<| RN i ?_;obtain ⟨j,a,k⟩:=zC a;refine zW (rg [6,9]) (fun (g:Unit)=>[(6,.bool j)]) (fun g wl=>Hd O w wl S []) ?_ ?_;refine zA<| zF (i6 b)<| zF (i6 c)<| RLb a (aC rfl rfl) fun m a=>RI a rfl (fun a=>?_) (fun a=>?_);refine zF (i6 b)<| zF (i6 d)<| RLb a (kU rfl rfl) fun f a=>zH (yB (v:= .bool f) rfl rfl)<| zG (.bool f) ?_;obtain rfl:=gI a;exact zK<| zD<| mt () (H.pick []);refine zU<| zU<| zU<| zH (zZ (v:= .bool false) rfl rfl)<| zG (.bool false) ?_;obtain rfl:=gI a;exact zK<| zD<| mt () (H.pick []);rintro _ ρ n H;have a:=k;obtain rfl:=gI a;exact zN<| gW rfl rfl ⟨rfl,H.pick []⟩
set_option maxRecDepth 100000 in
theorem Fc3w (b:Str)(r:Bool)(a:Fc3 b=some r)(O S:List Nat)(w:World)(H:Hd O w w S []):
  Cl 83 [sb b] w fun e c=>e= .returned (.bool r)∧Hd O w c S []:=by
 unfold Fc3 at a;refine CW 21 Tryz.func83 ?_;refine zB fun X d=>zA<| zG (.bool false)<| RN d<| zB fun Y f=>zB fun Z h=>zA<| zF (sb b)<| RN h<| zQ ?_;obtain ⟨i,a,j⟩:=zC a;refine zW (rg [4,17]) (fun (g:Unit)=>[(4,.bool i)]) (fun g wl=>Hd O w wl S []) ?_ ?_;refine zB fun aa k=>zA<| RLb a (dF (s1:=b) (s2:=[112,104,97,115,101]) rfl rfl) fun l a=>zG (.bool l)<| RN k<| WI a rfl (fun a=>?_) (fun a=>?_);obtain rfl:=gI a;exact yM<| zD<| mt () (H.pick []);refine zB fun ab m=>zA<| RLb a (dF (s1:=b) (s2:=[109,111,118,101]) rfl rfl) fun n a=>zG (.bool n)<| RN m<| WI a rfl (fun a=>?_) (fun a=>?_);obtain rfl:=gI a;exact yM<| zD<| mt () (H.pick []);refine zB fun ac o=>zA<| RLb a (dF (s1:=b) (s2:=[114,117,108,101]) rfl rfl) fun p a=>zG (.bool p)<| RN o<| WI a rfl (fun a=>?_) (fun a=>?_);obtain rfl:=gI a;exact yM<| zD<| mt () (H.pick []);refine zB fun ad q=>zA<| RLb a (dF (s1:=b) (s2:=[105,102]) rfl rfl) fun s a=>zG (.bool s)<| RN q<| WI a rfl (fun a=>?_) (fun a=>?_);obtain rfl:=gI a;exact yM<| zD<| mt () (H.pick []);refine zB fun ae t=>zA<| RLb a (dF (s1:=b) (s2:=[111,114]) rfl rfl) fun u a=>zG (.bool u)<| RN t<| WI a rfl (fun a=>?_) (fun a=>?_);obtain rfl:=gI a;exact yM<| zD<| mt () (H.pick []);refine zB fun af v=>zA<| RLb a (dF (s1:=b) (s2:=[97,110,100]) rfl rfl) fun x a=>zG (.bool x)<| RN v<| WI a rfl (fun a=>?_) (fun a=>?_);obtain rfl:=gI a;exact yM<| zD<| mt () (H.pick []);refine zB fun ag y=>zA<| RLb a (dF (s1:=b) (s2:=[116,114,117,101]) rfl rfl) fun z a=>zG (.bool z)<| RN y<| WI a rfl (fun a=>?_) (fun a=>?_)
 obtain rfl:=gI a;exact yM<| zD<| mt () (H.pick []);refine zB fun ah A=>zA<| RLb a (dF (s1:=b) (s2:=[102,97,108,115,101]) rfl rfl) fun B a=>zG (.bool B)<| RN A<| WI a rfl (fun a=>?_) (fun a=>?_);obtain rfl:=gI a;exact yM<| zD<| mt () (H.pick []);refine zB fun ai C=>zA<| RLb a (dF (s1:=b) (s2:=[115,116,101,97,100,121]) rfl rfl) fun D a=>zG (.bool D)<| RN C<| WI a rfl (fun a=>?_) (fun a=>?_);obtain rfl:=gI a;exact yM<| zD<| mt () (H.pick []);refine zB fun aj E=>zA<| RLb a (dF (s1:=b) (s2:=[110,111,116]) rfl rfl) fun F a=>zG (.bool F)<| RN E<| WI a rfl (fun a=>?_) (fun a=>?_);obtain rfl:=gI a;exact yM<| zD<| mt () (H.pick []);refine zB fun ak G=>zA<| RLb a (dF (s1:=b) (s2:=[102,111,114]) rfl rfl) fun I a=>zG (.bool I)<| RN G<| WI a rfl (fun a=>?_) (fun a=>?_);obtain rfl:=gI a;exact yM<| zD<| mt () (H.pick []);refine zB fun al J=>zA<| RLb a (dF (s1:=b) (s2:=[119,105,116,104,105,110]) rfl rfl) fun K a=>zG (.bool K)<| RN J<| WI a rfl (fun a=>?_) (fun a=>?_);obtain rfl:=gI a;exact yM<| zD<| mt () (H.pick []);refine zB fun am L=>zA<| RLb a (dF (s1:=b) (s2:=[99,111,117,110,116]) rfl rfl) fun M a=>zG (.bool M)<| RN L<| WI a rfl (fun a=>?_) (fun a=>?_);obtain rfl:=gI a;exact yM<| zD<| mt () (H.pick []);refine zB fun an N=>zA<| RLb a (dF (s1:=b) (s2:=[111,102]) rfl rfl) fun P a=>zG (.bool P)<| RN N<| WI a rfl (fun a=>?_) (fun a=>?_);obtain rfl:=gI a;exact yM<| zD<| mt () (H.pick []);refine zB fun ao Q=>zA<| RLb a (dF (s1:=b) (s2:=[114,105,115,101,115]) rfl rfl) fun R a=>zG (.bool R)<| RN Q<| WI a rfl (fun a=>?_) (fun a=>?_)
 obtain rfl:=gI a;exact yM<| zD<| mt () (H.pick []);refine zA<| RLb a (dF (s1:=b) (s2:=[115,105,110,99,101]) rfl rfl) fun T a=>zG (.bool T) ?_;obtain rfl:=gI a;exact zK<| zD<| mt () (H.pick []);rintro _ ρ ap H;have a:=j;refine WI a rfl (fun a=>?_) (fun a=>?_);refine zB fun aq U=>zA<| zG (.bool true)<| RN U ?_;obtain rfl:=gI a;exact zN<| zS<| zJ<| gW rfl rfl ⟨rfl,H.pick []⟩;refine yM<| yC<| zD<| f _ _<| zB fun ar V=>zA<| zG (.bool false)<| RN V ?_;obtain rfl:=gI a;exact zN<| gW rfl rfl ⟨rfl,H.pick []⟩
set_option maxRecDepth 100000 in
theorem Fdqw (b:Int)(r:Bool)(a:Fdq b=some r)(O S:List Nat)(w:World)(H:Hd O w w S []):
  Cl 84 [.int .u8 b] w fun e f=>e= .returned (.bool r)∧Hd O w f S []:=by
 unfold Fdq at a;refine CW 21 Tryz.func84 ?_;refine zB fun p h=>zA<| zG (.bool false)<| RN h ?_;obtain ⟨i,a,j⟩:=zC a;refine zW (rg [2,19]) (fun (g:Unit)=>[(2,.bool i)]) (fun g wl=>Hd O w wl S []) ?_ ?_;refine zA<| zF (.int .u8 b)<| RLb a (aC rfl rfl) fun q a=>?_;obtain ⟨k,a,l⟩:=zC a;refine dE 4 [5,6,7,8] [(8,.bool k)] (fun wl=>Hd O w wl S []) ?_ ?_;refine RI a rfl (fun a=>?_) (fun a=>?_);refine zF (.int .u8 b)<| RLb a (kU rfl rfl) fun m a=>zH (yB (v:= .bool m) rfl rfl) ?_;obtain rfl:=gI a;exact zK<| zD<| meet ⟨(zV rfl yK),H.pick []⟩;refine zU<| zU<| zH (zZ (v:= .bool false) rfl rfl) ?_;obtain rfl:=gI a;exact zK<| zD<| meet ⟨(zV rfl yK),H.pick []⟩;rintro ρ s H;have a:=l;obtain ⟨n,a,o⟩:=zC a;refine dE 8 [9,10,11,12,13,14,15,16] [(16,.bool n)] (fun wl=>Hd O w wl S []) ?_ ?_;refine RI a rfl (fun a=>?_) (fun a=>?_);refine zU<| zU<| zU<| zU<| zU<| zU<| zH (yB (v:= .bool true) rfl rfl) ?_;obtain rfl:=gI a;exact zK<| zD<| meet ⟨(zV rfl yK),H.pick []⟩;refine zF (.int .u8 b)<| RLb a (aC rfl rfl) fun t a=>RI a rfl (fun a=>?_) (fun a=>?_);refine zF (.int .u8 b)<| RLb a (kU rfl rfl) fun c a=>zH (yB (v:= .bool c) rfl rfl)<| zH (zZ (v:= .bool c) rfl rfl) ?_;obtain rfl:=gI a;exact zK<| zD<| meet ⟨(zV rfl yK),H.pick []⟩;refine zU<| zU<| zH (zZ (v:= .bool false) rfl rfl)<| zH (zZ (v:= .bool false) rfl rfl) ?_;obtain rfl:=gI a;exact zK<| zD<| meet ⟨(zV rfl yK),H.pick []⟩;rintro ρ u H;have a:=o;refine RI a rfl (fun a=>?_) (fun a=>?_);refine zU<| zU<| zH (yB (v:= .bool true) rfl rfl)<| zG (.bool true) ?_
 obtain rfl:=gI a;exact zK<| zD<| mt () (H.pick []);refine zF (.int .u8 b)<| RLb a (xA rfl rfl) fun d a=>zH (zZ (v:= .bool d) rfl rfl)<| zG (.bool d) ?_;obtain rfl:=gI a;exact zK<| zD<| mt () (H.pick []);rintro _ ρ x H;have a:=j;obtain rfl:=gI a;exact zN<| gW rfl rfl ⟨rfl,H.pick []⟩
set_option maxRecDepth 100000 in
theorem Falw (b:Str)(r:Bool)(a:Fal b=some r)(O S:List Nat)(w:World)(H:Hd O w w S []):
  Cl 47 [sb b] w fun e h=>e= .returned (.bool r)∧Hd O w h S []:=by
 unfold Fal at a;refine CW 33 Tryz.func47 ?_;refine zB fun K1 i=>zA<| zG (.bool false)<| RN i<| zB fun ab j=>?_;obtain ⟨k,a,l⟩:=zC a;refine zW (rg [4,18]) (fun (g:Unit)=>[(21,.bool k)]) (fun g wl=>Hd O w wl S []) ?_ ?_;refine zA<| zF (sb b)<| RLi a (aDf (s1:=b) u9 rfl) fun m a=>?_;obtain ⟨n,o,a⟩:=zC a;refine RC aQh (aSi m 1 30 _ o _ _ _ (H.enter [] [])) H fun ac H=>RLb a (xM (p:=n) rfl) fun ad a=>?_;obtain ⟨s,a,t⟩:=zC a;refine dE 5 [8,9,10,11,12] [(12,.bool s)] (fun wl=>Hd O w wl S []) ?_ ?_;refine RI a rfl (fun a=>?_) (fun a=>?_);refine zU<| zU<| zU<| zH (yB (v:= .bool true) rfl rfl) ?_;obtain rfl:=gI a;exact zK<| zD<| meet ⟨(zV rfl yK),H.pick []⟩;refine zF (sb b) ?_;obtain ⟨ae,u,a⟩:=zC a;refine zH (wQ (s1:=b) (q:=0) u9 rfl rfl u)<| RLb a (yX rfl rfl) fun x a=>zH (zZ (v:= .bool x) rfl rfl) ?_;obtain rfl:=gI a;exact zK<| zD<| meet ⟨(zV rfl yK),H.pick []⟩;rintro ρ af H;have a:=t;obtain ⟨y,a,z⟩:=zC a;refine dE 5 [13,14,15,16,17] [(17,.bool y)] (fun wl=>Hd O w wl S []) ?_ ?_;refine RI a rfl (fun a=>?_) (fun a=>?_);refine zU<| zU<| zU<| zH (yB (v:= .bool true) rfl rfl) ?_;obtain rfl:=gI a;exact zK<| zD<| meet ⟨(zV rfl yK),H.pick []⟩;refine zF (sb b) ?_;obtain ⟨ag,A,a⟩:=zC a;refine zH (wQ (s1:=b) (q:=0) u9 rfl rfl A)<| RLb a (wH rfl rfl) fun B a=>zH (zZ (v:= .bool B) rfl rfl) ?_;obtain rfl:=gI a;exact zK<| zD<| meet ⟨(zV rfl yK),H.pick []⟩;rintro ρ ah H;have a:=z;refine RI a rfl (fun a=>?_) (fun a=>?_);refine zU<| zU<| zH (yB (v:= .bool true) rfl rfl) ?_;obtain rfl:=gI a;exact zK<| zD<| mt () (H.pick [])
 refine zF (sb b) ?_;obtain ⟨C,D,a⟩:=zC a;refine RC en83 (Fc3w b _ D _ _ _ (H.enter [] [])) H fun ai H=>zH (zZ (v:= .bool C) rfl rfl) ?_;obtain rfl:=gI a;exact zK<| zD<| mt () (H.pick []);rintro _ ρ aj H;have a:=l;refine WI a rfl (fun a=>?_) (fun a=>?_);refine zB fun ak E=>zA<| zG (.bool false)<| RN E ?_;obtain rfl:=gI a;exact zN<| zJ<| gW rfl rfl ⟨rfl,H.pick []⟩;refine WS j ?_;obtain ⟨F,G,a⟩:=xK a;refine zW (rg [2,2,22,11]) (fun (g:Unit)=>[]) (fun g wl=>Hd O w wl S []∧F ()=some r) ?_ ?_;refine zB fun al I=>zA<| zF (sb b)<| RLi a (aDf (s1:=b) u9 rfl) fun am a=>zF (i6 0)<| RN I<| zQ ?_;unfold Fez at a;obtain ⟨J,d,K,a⟩:=yG a;refine yR (rg [2,2,24,9]) (fun (g:Nat×Int)=>[(24,i6 g.2)]) (fun g wl=>Hd O w wl S []∧fK J g.1 g.2=some r) (fun g=>g.1) (d,0) (zV rfl yK) ⟨H.pick [],a⟩ ?_;clear H a;rintro ⟨d,c⟩ ρ an ⟨H,a⟩;obtain ⟨L,rfl,a⟩:=lpb K a;refine zB fun ao M=>zA<| RLb a (yX rfl rfl) fun ap a=>RN M<| zB fun aq N=>WI a rfl (fun a=>?_) (fun a=>?_);refine WS N<| zB fun ar P=>zQ<| zB fun au Q=>zA<| zF (i6 c)<| zG (i6 c)<| RN Q<| zB fun av R=>zA<| zF (sb b)<| zF (i6 c) ?_;obtain ⟨T,U,a⟩:=zC a;refine zH (wQ (s1:=b) (q:=c) u9 rfl rfl U) ?_;obtain ⟨V,X,a⟩:=zC a;refine RC en84 (Fdqw T _ X _ _ _ (H.enter [] [])) H fun aw H=>RLb a (xM (p:=V) rfl) fun ax a=>RN R<| WI a rfl (fun a=>?_) (fun a=>?_);refine zB fun ay Y=>zA<| zG (.bool false)<| RN Y ?_;obtain rfl:=gI a;exact zN<| zS<| zJ<| zJ<| zS<| zJ<| gW rfl rfl ⟨rfl,H.pick []⟩;exact yM<| yC<| zD<| P _ _<| zA<| RLi a (yQ rfl rfl rfl) fun f a=>zF (i6 f)<| zK<| zD<| ml (L,f) (H.pick []) a
 exact yV<| yA<| yA<| yI<| zD<| mt () ⟨H.pick [],a⟩;rintro _ ρ az ⟨H,a⟩;have a:=xR G a;refine zB fun a0 Z=>zA<| zG (.bool true)<| RN Z ?_;obtain rfl:=gI a;exact zN<| gW rfl rfl ⟨rfl,H.pick []⟩
theorem Faxw (a:Str)(r:Bool)(b:Fax a=some r)(O S:List Nat)(w:World)(H:Hd O w w S []):
  Cl 52 [sb a] w fun e c=>e= .returned (.bool r)∧Hd O w c S []:=by
 unfold Fax at b;refine CW 5 Tryz.func52 ?_;refine zB fun j d=>zA<| zG (.bool false)<| RN d<| zB fun k f=>zA<| zF (sb a) ?_;obtain ⟨h,i,b⟩:=zC b;refine RC en47 (Falw a _ i _ _ _ (H.enter [] [])) H fun l H=>zG (.bool h)<| RN f ?_;obtain rfl:=gI b;exact zN<| gW rfl rfl ⟨rfl,H.pick []⟩
theorem Fe9w (a:Track)(b:Track)(d:Value)(f:Nat)(h:Value)(r:Bool)(c:Fe9 a b=some r)(O S:List Nat)(w:World)(H:Hd O w w S [.blk f [sb b.Name,i6 b.Series.Den,h,i6 b.Long] 92,f1 fD d a.Series.Samples,f1 fD h b.Series.Samples]):
  Cl 113 [.agg [sb a.Name,i6 a.Series.Den,d,i6 a.Long].toArray,gX f] w fun e i=>e= .returned (.bool r)∧Hd O w i S [.blk f [sb b.Name,i6 b.Series.Den,h,i6 b.Long] 92]:=by
 unfold Fe9 at c;refine CW 9 Tryz.func113 ?_;refine zB fun m j=>zA<| yH rfl rfl (xC (cs:=[sb a.Name,i6 a.Series.Den,d,i6 a.Long]) rfl H) ?_;rintro _ n ⟨o,rfl,H⟩;refine zG (.bool false)<| RN j<| zB fun p k=>zA<| zH (pV rfl)<| Ld dL H 3 0 rfl rfl<| zH (pV rfl)<| Ld dL H 0 0 rfl rfl<| RLb c (dF (s1:=a.Name) (s2:=b.Name) rfl rfl) fun l c=>zG (.bool l)<| RN k ?_;obtain rfl:=gI c;exact zN<| gW rfl rfl ⟨rfl,H.pick [0]⟩
theorem Fcgw (j:List Track)(p1c0:Track)(f:Value)(c:Nat)(b:Value)(r:Int)(a:Fcg j p1c0=some r)(O S:List Nat)(w:World)(H:Hd O w w S [.blk c [sb p1c0.Name,i6 p1c0.Series.Den,b,i6 p1c0.Long] 92,f1 fA f j,f1 fD b p1c0.Series.Samples]):
  Cl 139 [f,.func (.func 113) #[] #[gX c]] w fun e o=>e= .returned (i6 r)∧Hd O w o S [.blk c [sb p1c0.Name,i6 p1c0.Series.Den,b,i6 p1c0.Long] 92]:=by
 unfold Fcg at a;refine CW 19 Tryz.func139 ?_;refine zB fun T p=>zA<| zG (i6 0)<| RN p ?_;obtain ⟨q,s,a⟩:=xK a;refine zW (rg [4,15]) (fun (g:Unit)=>[]) (fun g wl=>Hd O w wl S [.blk c [sb p1c0.Name,i6 p1c0.Series.Den,b,i6 p1c0.Long] 92,f1 fD b p1c0.Series.Samples]∧q ()=some r) ?_ ?_;refine zB fun U t=>zA<| zF f ?_;obtain ⟨V,X,u⟩:=SlF.len ((H.item (i:=1) rfl));refine RLi a (yY u45 u) fun Y a=>zF (i6 0)<| RN t<| zQ ?_;unfold Fgs at a;obtain ⟨v,m,x,a⟩:=yG a;refine yR (rg [4,2,8,11]) (fun (g:Nat×Int)=>[(8,i6 g.2)]) (fun g wl=>Hd O w wl S [.blk c [sb p1c0.Name,i6 p1c0.Series.Den,b,i6 p1c0.Long] 92,f1 fD b p1c0.Series.Samples,f1 fA f j]∧fK v g.1 g.2=some r) (fun g=>g.1) (m,0) (zV rfl yK) ⟨H.pick [0,2,1],a⟩ ?_;clear H a;rintro ⟨m,d⟩ ρ Z ⟨H,a⟩;obtain ⟨y,rfl,a⟩:=lpb x a;refine zB fun aa z=>zA<| RLb a (yX rfl rfl) fun ab a=>RN z<| zB fun ac A=>WI a rfl (fun a=>?_) (fun a=>?_);refine WS A<| zB fun ad B=>zQ<| zB fun ae C=>zA<| zF (i6 d)<| zG (i6 d)<| RN C<| zB fun af D=>zA<| zF (.func (.func 113) #[] #[gX c])<| zF f<| zF (i6 d) ?_;obtain ⟨h,k,a⟩:=zC a;obtain ⟨E,F,ag,ah,G,I,J,K,L⟩:=xW (H.item (i:=2) rfl) k;obtain ⟨l,rfl,M⟩:=wJ I;have H:=H.fzs [.at E (F+d.toNat * 4) _,.sl fD l h.Series.Samples] ⟨⟨J,K,L⟩,M,trivial⟩;refine zH (yL u45 jY G rfl (zL k).1 (zL k).2.1 rfl rfl)<| zH (yO (zY (cs:=[sb h.Name,i6 h.Series.Den,l,i6 h.Long]) aBx rfl jY rfl (H.item (i:=3) rfl).2.2) rfl) ?_;obtain ⟨ai,N,a⟩:=zC a;refine yJ rfl rfl (kN en113 rfl rfl) (Fe9w h p1c0 l c b _ N _ _ _ (H.enter [0] [4,1])) ?_;rintro _ aj ⟨rfl,P⟩
 have H:Hd _ _ _ _ [_,_,_,_,_]:=H.back [0] [4,1] rfl P;refine ⟨_,rfl,?_⟩;refine RN D<| WI a rfl (fun a=>?_) (fun a=>?_);refine zB fun ak Q=>zA<| zF (i6 d)<| zG (i6 d)<| RN Q ?_;obtain rfl:=gI a;exact zN<| zS<| zJ<| zJ<| zS<| zJ<| gW rfl rfl ⟨rfl,H.pick [4]⟩;exact yM<| yC<| zD<| B _ _<| zA<| RLi a (yQ rfl rfl rfl) fun n a=>zF (i6 n)<| zK<| zD<| ml (y,n) (H.pick [4,0,1]) a;exact yV<| yA<| yA<| yI<| zD<| mt () ⟨H.pick [0,1],a⟩;rintro _ ρ al ⟨H,a⟩;have a:=xR s a;refine zB fun am R=>zA<| zG (i6 (-1))<| RN R ?_;obtain rfl:=gI a;exact zN<| gW rfl rfl ⟨rfl,H.pick [0]⟩
theorem Fcqw (f:List Track)(p1c0:Track)(c:Value)(b:Nat)(d:Value)(r:Bool)(a:Fcq f p1c0=some r)(O S:List Nat)(w:World)(H:Hd O w w S [.blk b [sb p1c0.Name,i6 p1c0.Series.Den,d,i6 p1c0.Long] 92,f1 fA c f,f1 fD d p1c0.Series.Samples]):
  Cl 112 [c,.func (.func 113) #[] #[gX b]] w fun e h=>e= .returned (.bool r)∧Hd O w h S [.blk b [sb p1c0.Name,i6 p1c0.Series.Den,d,i6 p1c0.Long] 92]:=by
 unfold Fcq at a;refine CW 9 Tryz.func112 ?_;refine zB fun n i=>zA<| zG (.bool false)<| RN i<| zB fun o j=>zA<| zF c<| zF (.func (.func 113) #[] #[gX b]) ?_;obtain ⟨p,k,a⟩:=zC a;refine yJ rfl rfl (yD en139 rfl) (Fcgw f p1c0 c b d _ k _ _ _ (H.enter [0] [1,2])) ?_;rintro _ q ⟨rfl,l⟩;have H:Hd _ _ _ _ [_,_,_]:=H.back [0] [1,2] rfl l;refine ⟨_,rfl,?_⟩;refine RLb a (aC rfl rfl) fun m a=>zG (.bool m)<| RN j ?_;obtain rfl:=gI a;exact zN<| gW rfl rfl ⟨rfl,H.pick [2]⟩
theorem Fa1w (b:Int)(c:Int)(d:Int)(r:Bool)(a:Fa1 b c d=some r)(O S:List Nat)(w:World)(H:Hd O w w S []):
  Cl 158 [i6 b,i6 c,i6 d] w fun e h=>e= .returned (.bool r)∧Hd O w h S []:=by
 unfold Fa1 at a;refine CW 15 Tryz.func158 ?_;refine zB fun l i=>zA<| zG (.bool false)<| RN i ?_;obtain ⟨j,a,k⟩:=zC a;refine zW (rg [6,9]) (fun (g:Unit)=>[(6,.bool j)]) (fun g wl=>Hd O w wl S []) ?_ ?_;refine zA<| zF (i6 b)<| zF (i6 c)<| RLb a (aC rfl rfl) fun m a=>RI a rfl (fun a=>?_) (fun a=>?_);refine zF (i6 b)<| zF (i6 d)<| RLb a (kU rfl rfl) fun f a=>zH (yB (v:= .bool f) rfl rfl)<| zG (.bool f) ?_;obtain rfl:=gI a;exact zK<| zD<| mt () (H.pick []);refine zU<| zU<| zU<| zH (zZ (v:= .bool false) rfl rfl)<| zG (.bool false) ?_;obtain rfl:=gI a;exact zK<| zD<| mt () (H.pick []);rintro _ ρ n H;have a:=k;obtain rfl:=gI a;exact zN<| gW rfl rfl ⟨rfl,H.pick []⟩
set_option maxRecDepth 100000 in
theorem Fd5w (f:Series)(j:Value)(r:Int×Int)(c:Fd5 f=some r)(O S:List Nat)(w:World)(H:Hd O w w S [f1 fD j f.Samples]):
  Cl 140 [.agg [i6 f.Den,j].toArray] w fun e q=>e= .returned (.tuple #[i6 r.1,i6 r.2])∧Hd O w q S []:=by
 unfold Fd5 at c;refine CW 67 Tryz.func140 ?_;refine zB fun K3 C=>zA<| yH rfl rfl (xC (cs:=[i6 f.Den,j]) rfl H) ?_;rintro _ w6 ⟨k,rfl,H⟩;refine zG (i6 0)<| zG (i6 0)<| RN C<| zB fun bj D=>zB fun bk E=>zA<| zH (aKq rfl)<| Ld fF H 1 0 rfl rfl ?_;obtain ⟨F,G,c⟩:=zC c;refine RC aUx (Fa1w f.Den 1 1000000 _ G _ _ _ (H.enter [] [])) H fun bl H=>RLb c (xM (p:=F) rfl) fun bm c=>RN E<| WI c rfl (fun c=>?_) (fun c=>?_);refine zB fun bn I=>zA<| zG (i6 (-1))<| zG (i6 9)<| RN I ?_;obtain rfl:=gI c;exact zN<| zJ<| bT rfl rfl rfl ⟨rfl,H.pick []⟩;refine WS D<| zB fun bo J=>zB fun bp K=>zA<| zH (aA rfl)<| Ld jU H 1 1 rfl rfl ?_;obtain ⟨bq,br,L⟩:=SlF.len ((H.item (i:=0) rfl));refine RLi c (yY u88 L) fun bt c=>RLb c (wH rfl rfl) fun bu c=>RN K<| WI c rfl (fun c=>?_) (fun c=>?_);refine zB fun bv M=>zA<| zG (i6 (-1))<| zG (i6 3)<| RN M ?_;obtain rfl:=gI c;exact zN<| zJ<| bT rfl rfl rfl ⟨rfl,H.pick []⟩;refine WS J ?_;obtain ⟨P,Q,c⟩:=xK c;refine zW (rg [2,4,14,53]) (fun (g:Unit)=>[]) (fun g wl=>Hd O w wl S []∧P ()=some r) ?_ ?_;refine zB fun bw R=>zA<| zH (aA rfl)<| Ld jU H 1 1 rfl rfl ?_;obtain ⟨bx,bz,T⟩:=SlF.len ((H.item (i:=0) rfl));refine RLi c (yY u88 T) fun b0 c=>zF (i6 0)<| RN R<| zQ ?_;unfold Fe0 at c;obtain ⟨U,s,V,c⟩:=yG c;refine yR (rg [2,4,17,50]) (fun (g:Nat×Int)=>[(17,i6 g.2)]) (fun g wl=>Hd O w wl S [f1 fD j f.Samples,.blk k [i6 f.Den,j] 90]∧fK U g.1 g.2=some r) (fun g=>g.1) (s,0) (zV rfl yK) ⟨H.pick [0,1],c⟩ ?_;clear H c;rintro ⟨s,h⟩ ρ b1 ⟨H,c⟩;obtain ⟨X,rfl,c⟩:=lpb V c;refine zB fun b2 Y=>zA<| RLb c (yX rfl rfl) fun b3 c=>RN Y<| zB fun b4 Z=>WI c rfl (fun c=>?_) (fun c=>?_)
 refine WS Z<| zB fun b5 aa=>zQ<| zB fun b6 ab=>zA<| zF (i6 h) ?_;obtain ⟨d,l,c⟩:=zC c;obtain ⟨t,u,b7,b8,ac,ad,ae,af,ag⟩:=xW (H.item (i:=0) rfl) l;obtain rfl:=wK ad;have H:=H.fz (.at t (u+h.toNat * 3) _) ⟨ae,af,ag⟩;refine zH (yL u88 kT ac rfl (zL l).1 (zL l).2.1 rfl rfl)<| zH (yO (zY (cs:=[i6 d.At,i6 d.N,i6 d.Mark]) uS rfl kT rfl (H.item (i:=2) rfl).2.2) rfl)<| yH rfl rfl (xB aAy H) ?_;rintro _ b9 ⟨m,rfl,H⟩;refine zG (i6 h)<| yP rfl (yN (vs:=[i6 d.At,i6 d.N,i6 d.Mark]) H 3 rfl kT rfl rfl rfl ⟨rfl,rfl,rfl,trivial⟩ rfl) ?_;rintro ca H;refine RN ab<| zQ ?_;obtain ⟨ah,c,ai⟩:=zC c;refine zW (rg [22,17]) (fun (g:Unit)=>[(22,.bool ah)]) (fun g wl=>Hd O w wl S [f1 fD j f.Samples,.blk k [i6 f.Den,j] 90,.blk m [i6 d.At,i6 d.N,i6 d.Mark] 94]) ?_ ?_;refine zA<| zH (uJ rfl)<| Ld fF H 3 0 rfl rfl ?_;obtain ⟨aj,ak,c⟩:=zC c;refine RC aUx (Fa1w d.At 0 1099511627776 _ ak _ _ _ (H.enter [] [])) H fun cb H=>RLb c (xM (p:=aj) rfl) fun cc c=>?_;obtain ⟨al,c,am⟩:=zC c;refine dE 6 [27,28,29,30,31,32] [(32,.bool al)] (fun wl=>Hd O w wl S [f1 fD j f.Samples,.blk k [i6 f.Den,j] 90,.fz (.at t (u+h.toNat * 3) [i6 d.At,i6 d.N,i6 d.Mark]),.blk m [i6 d.At,i6 d.N,i6 d.Mark] 94]) ?_ ?_;refine RI c rfl (fun c=>?_) (fun c=>?_);refine zU<| zU<| zU<| zU<| zH (yB (v:= .bool true) rfl rfl) ?_;obtain rfl:=gI c;exact zK<| zD<| meet ⟨(zV rfl yK),H.pick [0,1,2,3]⟩;refine zH (pU rfl)<| Ld fF H 3 1 rfl rfl ?_;obtain ⟨an,ao,c⟩:=zC c;refine RC aUx (Fa1w d.N (-1125899906842624) 1125899906842624 _ ao _ _ _ (H.enter [] [])) H fun cd H=>RLb c (xM (p:=an) rfl) fun ap c=>zH (zZ (v:= .bool ap) rfl rfl) ?_
 obtain rfl:=gI c;exact zK<| zD<| meet ⟨(zV rfl yK),H.pick [0,1,2,3]⟩;rintro ρ ce H;have c:=am;refine RI c rfl (fun c=>?_) (fun c=>?_);refine zU<| zU<| zU<| zU<| zH (yB (v:= .bool true) rfl rfl)<| zG (.bool true) ?_;obtain rfl:=gI c;exact zK<| zD<| mt () (H.pick [0,1,3]);refine zH (vX rfl)<| Ld fF H 3 2 rfl rfl ?_;obtain ⟨aq,ar,c⟩:=zC c;refine RC aUx (Fa1w d.Mark 0 4 _ ar _ _ _ (H.enter [] [])) H fun cf H=>RLb c (xM (p:=aq) rfl) fun x c=>zH (zZ (v:= .bool x) rfl rfl)<| zG (.bool x) ?_;obtain rfl:=gI c;exact zK<| zD<| mt () (H.pick [0,1,3]);rintro _ ρ cg H;have c:=ai;refine WI c rfl (fun c=>?_) (fun c=>?_);refine zB fun ch au=>zA<| zF (i6 h)<| zG (i6 h)<| zG (i6 9)<| RN au ?_;obtain rfl:=gI c;exact zN<| zS<| zS<| zJ<| zJ<| zS<| zJ<| bT rfl rfl rfl ⟨rfl,H.pick []⟩;obtain ⟨av,c,aw⟩:=zC c;refine zW (rg [40,9]) (fun (g:Unit)=>[(40,.bool av)]) (fun g wl=>Hd O w wl S [f1 fD j f.Samples,.blk k [i6 f.Den,j] 90,.blk m [i6 d.At,i6 d.N,i6 d.Mark] 94]) ?_ ?_;refine zA<| zH (pU rfl)<| Ld fF H 2 1 rfl rfl<| RLb c (wF rfl rfl) fun ci c=>RI c rfl (fun c=>?_) (fun c=>?_);refine zH (vX rfl)<| Ld fF H 2 2 rfl rfl<| RLb c (kU rfl rfl) fun y c=>zH (yB (v:= .bool y) rfl rfl)<| zG (.bool y) ?_;obtain rfl:=gI c;exact zK<| zD<| mt () (H.pick [0,1,2]);refine zU<| zU<| zU<| zH (zZ (v:= .bool false) rfl rfl)<| zG (.bool false) ?_;obtain rfl:=gI c;exact zK<| zD<| mt () (H.pick [0,1,2]);rintro _ ρ cj H;have c:=aw;refine WI c rfl (fun c=>?_) (fun c=>?_);refine zB fun ck ax=>zA<| zF (i6 h)<| zG (i6 h)<| zG (i6 2)<| RN ax ?_
 obtain rfl:=gI c;exact zN<| zS<| zS<| zJ<| zJ<| zS<| zJ<| bT rfl rfl rfl ⟨rfl,H.pick []⟩;obtain ⟨ay,c,az⟩:=zC c;refine zW (rg [50,15]) (fun (g:Unit)=>[(50,.bool ay)]) (fun g wl=>Hd O w wl S [f1 fD j f.Samples,.blk k [i6 f.Den,j] 90]) ?_ ?_;have z:=H;have H:=H.rebase;have cl:=H;refine xP H [0,1,2,3,4,5,6,7,8,9,10,11,12,13,14] (kz [0,0,0,0,1,0,1,0,0,0,0,1,0,0,0]) mixed ?_;refine XM (i6 h) ?_;obtain ⟨a0,a1,c⟩:=zT c;refine XP (fun _ _=>mV (wH (a:=h) (b:=0) rfl rfl) a1)<| MxM.XL_splitb (b:=a0) rfl rfl rfl rfl (fun n=>?_) (fun n=>?_);have c:=aDx n c;refine XP (fun _ _=>uJ rfl)<| XR fF H 2 0 rfl rfl<| XP (fun _ _=>aA rfl)<| XR jU H 1 1 rfl rfl<| XM (i6 h) ?_;obtain ⟨a2,a3,c⟩:=zT c;refine XP (fun _ _=>bF (a:=h) (b:=1) rfl rfl a3) ?_;obtain ⟨a4,o,c⟩:=zC c;obtain ⟨a5,a6,cm,cn,a7,a9,ba,bb,bc⟩:=xW (H.item (i:=0) rfl) o;obtain rfl:=wK a9;have H:=H.fz (.at a5 (a6+a2.toNat * 3) _) ⟨ba,bb,bc⟩;refine XP (fun _ _=>yL u88 kT a7 rfl (zL o).1 (zL o).2.1 rfl rfl)<| XP (fun _ _=>uJ rfl)<| MxM.xY oS rfl rfl rfl (fun q bd=>yS fF rfl (Cells.get ((H.sees bd).item (i:=3) rfl).2.2 (i:=0) rfl)) ?_;obtain ⟨A,be,c⟩:=zT c;refine XP (fun _ _=>mV (kU (a:=d.At) (b:=a4.At) rfl rfl) be)<| XP (fun _ _=>yB (v:= .bool A) rfl rfl)<| XP (fun _ _=>yZ (v:= .bool A) rfl)<| MxM.xG fun cp hS=>?_;have H:=H.sees hS;have H:=z.rejoin H;obtain rfl:=gI c;exact zD<| mt () (H.pick [0,1]);have c:=aEi n c;refine XO<| MxM.XL_offr oS rfl rfl rfl ?_;refine XO<| MxM.XL_offr oS rfl rfl rfl ?_;refine XO<| XO<| XO<| XO<| MxM.XL_offr oS rfl rfl rfl ?_
 refine XO<| XP (fun _ _=>zZ (v:= .bool false) rfl rfl)<| XP (fun _ _=>yZ (v:= .bool false) rfl)<| MxM.xG fun cq hS=>?_;have H:=H.sees hS;have H:=z.rejoin H;obtain rfl:=gI c;exact zD<| mt () (H.pick [0,1]);rintro _ ρ cr H;have c:=az;refine WI c rfl (fun c=>?_) (fun c=>?_);refine zB fun ct bf=>zA<| zF (i6 h)<| zG (i6 h)<| zG (i6 10)<| RN bf ?_;obtain rfl:=gI c;exact zN<| zS<| zS<| zJ<| zJ<| zS<| zJ<| bT rfl rfl rfl ⟨rfl,H.pick []⟩;exact yM<| yC<| yC<| zD<| aa _ _<| zA<| RLi c (yQ rfl rfl rfl) fun B c=>zF (i6 B)<| zK<| zD<| ml (X,B) (H.pick [0,1]) c;exact yV<| yA<| yA<| yI<| zD<| mt () ⟨H.pick [],c⟩;rintro _ ρ cu ⟨H,c⟩;have c:=xR Q c;refine zB fun cv bg=>zA<| zG (i6 (-1))<| zG (i6 0)<| RN bg ?_;obtain rfl:=gI c;exact zN<| bT rfl rfl rfl ⟨rfl,H.pick []⟩
theorem Fcfw (a:Series)(b:Value)(r:Int)(d:Fcf a=some r)(O S:List Nat)(w:World)(H:Hd O w w S [f1 fD b a.Samples]):
  Cl 114 [.agg [i6 a.Den,b].toArray] w fun e h=>e= .returned (i6 r)∧Hd O w h S []:=by
 unfold Fcf at d;refine CW 11 Tryz.func114 ?_;refine zB fun m i=>zA<| yH rfl rfl (xC (cs:=[i6 a.Den,b]) rfl H) ?_;rintro _ n ⟨o,rfl,H⟩;refine zG (i6 0)<| RN i<| zB fun p j=>zA<| zH (yO (zY (cs:=[i6 a.Den,b]) aGh rfl aRr rfl (Hbc H 1 rfl)) rfl) ?_;obtain ⟨⟨f,c⟩,k,d⟩:=zC d;refine RC en140 (Fd5w a b _ k _ _ _ (H.enter [] [0])) H fun q H=>zF (.tuple #[i6 f,i6 c])<| zH (yT (v:=i6 f) rfl rfl)<| zH (yT (v:=i6 c) rfl rfl)<| zG (i6 f)<| zG (i6 c)<| RN j<| zB fun s l=>zA<| zF (i6 c)<| zG (i6 c)<| RN l ?_;obtain rfl:=gI d;exact zN<| gW rfl rfl ⟨rfl,H.pick []⟩
set_option maxRecDepth 100000 in
theorem Fdtw (j:List Track)(c:Value)(r:Int)(a:Fdt j=some r)(O S:List Nat)(w:World)(H:Hd O w w S [f1 fA c j]):
  Cl 81 [c] w fun e q=>e= .returned (i6 r)∧Hd O w q S []:=by
 unfold Fdt at a;refine CW 36 Tryz.func81 ?_;refine zB fun K3 s=>zA<| zG (i6 0)<| RN s<| zB fun av t=>zB fun aw u=>zA<| zF c ?_;obtain ⟨ax,ay,v⟩:=SlF.len ((H.item (i:=0) rfl));refine RLi a (yY u45 v) fun az a=>RLb a (wH rfl rfl) fun a0 a=>RN u<| WI a rfl (fun a=>?_) (fun a=>?_);refine zB fun a1 x=>zA<| zG (i6 3)<| RN x ?_;obtain rfl:=gI a;exact zN<| zJ<| gW rfl rfl ⟨rfl,H.pick []⟩;refine WS t ?_;obtain ⟨y,z,a⟩:=xK a;refine zW (rg [2,4,9,27]) (fun (g:Unit)=>[]) (fun g wl=>Hd O w wl S []∧y ()=some r) ?_ ?_;refine zB fun a2 A=>zA<| zF c ?_;obtain ⟨a3,a4,B⟩:=SlF.len ((H.item (i:=0) rfl));refine RLi a (yY u45 B) fun a5 a=>zF (i6 0)<| RN A<| zQ ?_;unfold Fgc at a;obtain ⟨C,l,D,a⟩:=yG a;refine yR (rg [2,4,11,25]) (fun (g:Nat×Int)=>[(11,i6 g.2)]) (fun g wl=>Hd O w wl S [f1 fA c j]∧fK C g.1 g.2=some r) (fun g=>g.1) (l,0) (zV rfl yK) ⟨H.pick [0],a⟩ ?_;clear H a;rintro ⟨l,f⟩ ρ a6 ⟨H,a⟩;obtain ⟨E,rfl,a⟩:=lpb D a;refine zB fun a7 F=>zA<| RLb a (yX rfl rfl) fun a9 a=>RN F<| zB fun ba G=>WI a rfl (fun a=>?_) (fun a=>?_);refine WS G<| zB fun bb I=>zQ<| zB fun bc J=>zA<| zF (i6 f) ?_;obtain ⟨b,k,a⟩:=zC a;obtain ⟨K,L,bd,be,M,N,P,Q,R⟩:=xW (H.item (i:=0) rfl) k;obtain ⟨d,rfl,T⟩:=wJ N;have H:=H.fzs [.at K (L+f.toNat * 4) _,.sl fD d b.Series.Samples] ⟨⟨P,Q,R⟩,T,trivial⟩;refine zH (yL u45 jY M rfl (zL k).1 (zL k).2.1 rfl rfl)<| zH (yO (zY (cs:=[sb b.Name,i6 b.Series.Den,d,i6 b.Long]) aBx rfl jY rfl (H.item (i:=1) rfl).2.2) rfl)<| yH rfl rfl (xB aGb H) ?_;rintro _ bf ⟨U,rfl,H⟩;refine zG (i6 f)<| yP rfl (yN (vs:=[sb b.Name,i6 b.Series.Den,d,i6 b.Long]) H 3 rfl jY rfl rfl rfl ⟨rfl,rfl,(dD (H.item (i:=2) rfl)),rfl,trivial⟩ rfl) ?_
 rintro bg H;refine RN J<| zB fun bh V=>zB fun bi X=>zA<| zH (pV rfl)<| Ld dL H 3 0 rfl rfl ?_;obtain ⟨Y,Z,a⟩:=zC a;refine RC en47 (Falw b.Name _ Z _ _ _ (H.enter [] [])) H fun bj H=>RLb a (xM (p:=Y) rfl) fun bk a=>RN X<| WI a rfl (fun a=>?_) (fun a=>?_);refine zB fun bl aa=>zA<| zG (i6 8)<| RN aa ?_;obtain rfl:=gI a;exact zN<| zJ<| zS<| zJ<| zJ<| zS<| zJ<| gW rfl rfl ⟨rfl,H.pick []⟩;refine WS V<| zB fun bm ab=>zB fun bn ac=>zA<| zF c<| zF (i6 f) ?_;obtain ⟨m,ad,a⟩:=zC a;refine aBd rfl rfl (qZ u45 jY (H.item (i:=0) rfl) rfl rfl ad) ?_;rintro n ae;have H:=H.fz (.sl fA n m) ae;refine zH (aJ rfl) ?_;obtain ⟨bo,af,a⟩:=zC a;refine yJ rfl rfl (yD en112 rfl) (Fcqw m b n U d _ af _ _ _ (H.enter [3] [4,2])) ?_;rintro _ bp ⟨rfl,ag⟩;have H:Hd _ _ _ _ [_,_,_,_,_]:=H.back [3] [4,2] rfl ag;refine ⟨_,rfl,?_⟩;refine RN ac<| WI a rfl (fun a=>?_) (fun a=>?_);refine zB fun bq ah=>zA<| zG (i6 5)<| RN ah ?_;obtain rfl:=gI a;exact zN<| zJ<| zS<| zJ<| zJ<| zS<| zJ<| gW rfl rfl ⟨rfl,H.pick []⟩;refine WS ab<| zB fun br ai=>zB fun bt aj=>zA<| zH (jA rfl)<| zH (yO (zY (cs:=[i6 b.Series.Den,d]) aGh rfl aRr rfl (Cells.drop (Hbc H 4 rfl) 1 2)) rfl) ?_;obtain ⟨h,ak,a⟩:=zC a;refine RC en114 (Fcfw b.Series d _ ak _ _ _ (H.enter [] [2])) H fun bu H=>zG (i6 h)<| RN aj<| zB fun bv al=>zA<| zF (i6 h)<| RLb a (wF rfl rfl) fun bw a=>RN al<| WI a rfl (fun a=>?_) (fun a=>?_);refine zB fun bx am=>zA<| zF (i6 h)<| zG (i6 h)<| RN am ?_;obtain rfl:=gI a;exact zN<| zJ<| zS<| zJ<| zJ<| zS<| zJ<| gW rfl rfl ⟨rfl,H.pick []⟩;refine WS ai<| zB fun bz an=>zA<| zH (aMj rfl)<| Ld fF H 4 3 rfl rfl ?_
 obtain ⟨ao,ap,a⟩:=zC a;refine RC aQh (aSi b.Long 0 1099511627776 _ ap _ _ _ (H.enter [] [])) H fun b0 H=>RLb a (xM (p:=ao) rfl) fun b1 a=>RN an<| WI a rfl (fun a=>?_) (fun a=>?_);refine zB fun b2 aq=>zA<| zG (i6 9)<| RN aq ?_;obtain rfl:=gI a;exact zN<| zS<| zJ<| zJ<| zS<| zJ<| gW rfl rfl ⟨rfl,H.pick []⟩;exact yM<| yC<| zD<| I _ _<| zA<| RLi a (yQ rfl rfl rfl) fun o a=>zF (i6 o)<| zK<| zD<| ml (E,o) (H.pick [0]) a;exact yV<| yA<| yA<| yI<| zD<| mt () ⟨H.pick [],a⟩;rintro _ ρ b3 ⟨H,a⟩;have a:=xR z a;refine zB fun b4 ar=>zA<| zG (i6 0)<| RN ar ?_;obtain rfl:=gI a;exact zN<| gW rfl rfl ⟨rfl,H.pick []⟩
end Go.Proofs.YthllgjnlmjpinaaGreatDoor.L
