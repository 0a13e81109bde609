/- Walks: what each function computes, for every argument; no condition but those that stand in the statements. -/
import Derived.Test.YtckmiljbaejijaaGreatDoorRows
import Derived.Test.YtckmiljbaejijaaGreatDoorUP
import Derived.Test.YtckmiljbaejijaaGreatDoorXVc
import Derived.Test.YtckmiljbaejijaaGreatDoorXVs
import Derived.Test.YtckmiljbaejijaaGreatDoorLfS
namespace Go.Proofs.YtckmiljbaejijaaGreatDoor.L
open Go.RowKit Go.OB Go.Lf
set_option maxHeartbeats 4000000
abbrev En (f:FuncId):Prop:=Go.OB.Enters Tryz.prog f
theorem RN {P:Program}{N:Nat}{ops:Array Oper}{y:Code}{K:Env→World→Prop}{Q Q':Exit→Env→World→Prop}{ρ:Env}{w:World}(h: ∀ρ w,WP P N y Q ρ w→K ρ w)(n:WP P N y Q ρ w):RL P N ops (tK K Q') [] ρ w:=yA (zF (h _ _ n))
theorem CW {P:Program}{f:FuncId}{fn:Func}{c:Code}{args:List Value}{w:World}{R:Ending→World→Prop}(N:Nat)(hf:P.funcs[f]? =some fn)(h:WP P N c (uK P fn.results R) (aGu args) w)(hb:fn.body=some c:=by exact rfl)(hN:fn.ntmps=N:=by exact rfl)(hl:Nat.ble args.length N=true:=by exact rfl):Calls P f args.toArray w R:=nC N hf hb hN hl h
abbrev Cl (f:Nat)(a:List Value)(w:World)(R:Ending→World→Prop):Prop:=Calls Tryz.prog f a.toArray w R
abbrev i6 (n:Int):Value:= .int .i64 n
abbrev sb (s:Str):Value:= .string (bs s)
abbrev f1 {α:Type}(r:Rp α)(v:Value)(l:List α):Th:= .fz (.sl r v l)
theorem Hbc {O S:List Nat}{a w:World}{l:List Th}{b:Nat}{T:TypeId}{cs:List Value}(H:Hd O a w S l)(i:Nat)(h:l[i]? =some (.blk b cs T)):Cells w ⟨b,0,none⟩ cs:=Blk.cells (H.item h)
theorem Hbg {O S:List Nat}{a w:World}{l:List Th}{b:Nat}{T:TypeId}{cs:List Value}{v:Value}(H:Hd O a w S l)(i j:Nat)(h:l[i]? =some (.blk b cs T))(c:cs[j]? =some v):w.cell? ⟨b,0+j,none⟩=some v:=Cells.get (Blk.cells (H.item h)) c
theorem XP {P:Program}{I:World→Prop}{N:Nat}{ops:Array Oper}{κ:List MxM.Kd}{K:MxM.Mm→Env→World→Prop}{k:Nat}{M:MxM.Mm}{σ:List Nat}{rest:List Oper}{ρ:Env}{w:World}{d:Nat}{ty:TypeId}{pos:String}{af:Array Edge}{g:Option (Nat×Bool)}{v:Value}{op:Op}(h: ∀a,I a→Do P ⟨some d,op,ty,pos,af,g⟩ ρ a v a)(n:MxM.XL P I N ops κ K M σ rest (upd ρ d v) w)(hk:MxM.kdOf κ k= .pure:=by exact rfl)(hw:eY N ops ρ ⟨some d,op,ty,pos,af,g⟩=true:=by exact rfl)(hd:Nat.blt d N=true:=by exact rfl):MxM.XL P I N ops κ K M (k :: σ) (⟨some d,op,ty,pos,af,g⟩ :: rest) ρ w:=MxM.XL_pure hk hw hd h n
theorem XO {P:Program}{I:World→Prop}{N:Nat}{ops:Array Oper}{κ:List MxM.Kd}{K:MxM.Mm→Env→World→Prop}{k:Nat}{M:MxM.Mm}{σ:List Nat}{rest:List Oper}{ρ:Env}{w:World}{d:Nat}{ty:TypeId}{pos:String}{af:Array Edge}{g:Option (Nat×Bool)}{op:Op}(n:MxM.XL P I N ops κ K M σ rest (upd ρ d undef) w)(hk:MxM.kdOf κ k= .pure:=by exact rfl)(hw:eY N ops ρ ⟨some d,op,ty,pos,af,g⟩=false:=by exact rfl)(hd:Nat.blt d N=true:=by exact rfl):MxM.XL P I N ops κ K M (k :: σ) (⟨some d,op,ty,pos,af,g⟩ :: rest) ρ w:=MxM.XL_offp hk hw hd n
theorem XM {P:Program}{I:World→Prop}{N:Nat}{ops:Array Oper}{κ:List MxM.Kd}{K:MxM.Mm→Env→World→Prop}{k:Nat}{M:MxM.Mm}{σ:List Nat}{rest:List Oper}{ρ:Env}{w:World}{d:Nat}{ty:TypeId}{pos:String}{af:Array Edge}{g:Option (Nat×Bool)}{x:Operand}(v:Value)(n:MxM.XL P I N ops κ K M σ rest (upd ρ d v) w)(hx:ev ρ x=v:=by exact rfl)(hk:MxM.kdOf κ k= .pure:=by exact rfl)(hw:eY N ops ρ ⟨some d,.move x,ty,pos,af,g⟩=true:=by exact rfl)(hd:Nat.blt d N=true:=by exact rfl):MxM.XL P I N ops κ K M (k :: σ) (⟨some d,.move x,ty,pos,af,g⟩ :: rest) ρ w:=MxM.XL_pure hk hw hd (fun _ _=>aW hx) n
theorem XR {P:Program}{c:World}{e:List Nat}{N:Nat}{ops:Array Oper}{κ:List MxM.Kd}{K:MxM.Mm→Env→World→Prop}{k:Nat}{M:MxM.Mm}{σ:List Nat}{rest:List Oper}{ρ:Env}{w:World}{d:Nat}{ty:TypeId}{pos:String}{af:Array Edge}{g:Option (Nat×Bool)}{t:TypeId}{x:Operand}{O S:List Nat}{f:World}{l:List Th}{b:Nat}{T:TypeId}{cs:List Value}{v:Value}(o:dW P t)(H:Hd O f w S l)(i j:Nat)(h:l[i]? =some (.blk b cs T))(m:cs[j]? =some v)(n:MxM.XL P (fun a=>Only e c a) N ops κ K M σ rest (upd ρ d v) w)(hx:ev ρ x= .pointer (some ⟨b,0+j,none⟩):=by exact rfl)(hk:MxM.kdOf κ k= .read:=by exact rfl)(hw:eY N ops ρ ⟨some d,.load t x,ty,pos,af,g⟩=true:=by exact rfl)(hd:Nat.blt d N=true:=by exact rfl):MxM.XL P (fun a=>Only e c a) N ops κ K M (k :: σ) (⟨some d,.load t x,ty,pos,af,g⟩ :: rest) ρ w:=MxM.wJ oS hk hw hd (fun _ p=>xG o hx (Hbg (H.sees p) i j h m)) n
theorem Ld {P:Program}{N:Nat}{ops:Array Oper}{Q:Exit→Env→World→Prop}{rest:List Oper}{ρ:Env}{w:World}{d:Nat}{t ty:TypeId}{x:Operand}{pos:String}{af:Array Edge}{g:Option (Nat×Bool)}{O S:List Nat}{a:World}{l:List Th}{b:Nat}{T:TypeId}{cs:List Value}{v:Value}(o:dW P t)(H:Hd O a w S l)(i j:Nat)(h:l[i]? =some (.blk b cs T))(c:cs[j]? =some v)(k:RL P N ops Q rest (upd ρ d v) w)(hx:ev ρ x= .pointer (some ⟨b,0+j,none⟩):=by exact rfl)(hw:eY N ops ρ ⟨some d,.load t x,ty,pos,af,g⟩=true:=by exact rfl)(hd:Nat.blt d N=true:=by exact rfl):RL P N ops Q (⟨some d,.load t x,ty,pos,af,g⟩ :: rest) ρ w:=zG (xG o hx (Hbg H i j h c)) k hw hd
theorem fQ {f:FuncId}{fn:Func}(h:Tryz.prog.funcs[f]? =some fn)(a:fn.body.isSome=true:=by exact rfl)(b:(fn.name== "runtime.NumGoroutine")=false:=by kernel_rfl):Go.OB.Enters Tryz.prog f:=⟨_,h,a,b⟩
theorem u2:Tryz.prog.underlying 2=some (.int .i64):=Tryz.underlying2
theorem u3:Tryz.prog.underlying 3=some (.int .i64):=Tryz.underlying3
theorem u4:Tryz.prog.underlying 4=some .bool:=Tryz.underlying4
theorem u5:Tryz.prog.underlying 5=some (.int .u8):=Tryz.underlying5
theorem u9:Tryz.prog.underlying 9=some .string:=Tryz.underlying9
theorem u22:Tryz.prog.underlying 22=some (.slice 9):=Tryz.underlying22
theorem u23:Tryz.prog.underlying 23=some (.slice 122):=Tryz.underlying23
theorem u24:Tryz.prog.underlying 24=some (.slice 95):=Tryz.underlying24
theorem u27:Tryz.prog.underlying 27=some (.slice 37):=Tryz.underlying27
theorem u28:Tryz.prog.underlying 28=some (.slice 38):=Tryz.underlying28
theorem u33:Tryz.prog.underlying 33=some (.slice 40):=Tryz.underlying33
theorem u38:Tryz.prog.underlying 38=some (.slice 3):=Tryz.underlying38
theorem u55:Tryz.prog.underlying 55=some (.slice 148):=Tryz.underlying55
theorem u61:Tryz.prog.underlying 61=some (.slice 5):=Tryz.underlying61
theorem u68:Tryz.prog.underlying 68=some (.slice 70):=Tryz.underlying68
theorem aQi:Tryz.prog.underlying 142=some (.slice 172):=Tryz.underlying142
theorem vJ:Tryz.prog.underlying 143=some (.slice 170):=Tryz.underlying143
theorem uC:Tryz.prog.underlying 144=some (.slice 4):=Tryz.underlying144
theorem aPe:Tryz.prog.underlying 163=some (.map 9 3):=Tryz.underlying163
theorem u199:Tryz.prog.underlying 199=some (.int .u64):=Tryz.underlying199
theorem u209:Tryz.prog.underlying 209=some (.array 7 9):=Tryz.underlying209
theorem aKy:Tryz.prog.underlying 243=some (.array 3 3):=Tryz.underlying243
theorem aQg:Tryz.prog.underlying 260=some (.map 3 3):=Tryz.underlying260
theorem u297:Tryz.prog.underlying 297=some (.int .u64):=Tryz.underlying297
theorem fo107_2:aAy Tryz.prog 107 2=some (2,3):=by kernel_rfl
theorem fo107_3:aAy Tryz.prog 107 3=some (3,9):=by kernel_rfl
theorem ui131:Tryz.prog.underlying 131=some (.interface (Tryz.prog.methodsAt 131)):=by kernel_rfl
theorem sz3:Sz Tryz.prog 3 1:=by unfold Sz; kernel_rfl
theorem sz4:Sz Tryz.prog 4 1:=by unfold Sz; kernel_rfl
theorem sz9:Sz Tryz.prog 9 1:=by unfold Sz; kernel_rfl
theorem sz22:Sz Tryz.prog 22 1:=by unfold Sz; kernel_rfl
theorem sz24:Sz Tryz.prog 24 1:=by unfold Sz; kernel_rfl
theorem uV:Sz Tryz.prog 26 3:=by unfold Sz; kernel_rfl
theorem sz28:Sz Tryz.prog 28 1:=by unfold Sz; kernel_rfl
theorem sz35:Sz Tryz.prog 35 2:=by unfold Sz; kernel_rfl
theorem aAd:Sz Tryz.prog 37 4:=by unfold Sz; kernel_rfl
theorem aKw:Sz Tryz.prog 38 1:=by unfold Sz; kernel_rfl
theorem rC:Sz Tryz.prog 40 3:=by unfold Sz; kernel_rfl
theorem sz48:Sz Tryz.prog 48 1:=by unfold Sz; kernel_rfl
theorem sz55:Sz Tryz.prog 55 1:=by unfold Sz; kernel_rfl
theorem sz61:Sz Tryz.prog 61 1:=by unfold Sz; kernel_rfl
theorem sz68:Sz Tryz.prog 68 1:=by unfold Sz; kernel_rfl
theorem fZ:Sz Tryz.prog 70 7:=by unfold Sz; kernel_rfl
theorem rZ:Sz Tryz.prog 95 8:=by unfold Sz; kernel_rfl
theorem aHv:Sz Tryz.prog 107 4:=by unfold Sz; kernel_rfl
theorem sz111:Sz Tryz.prog 111 2:=by unfold Sz; kernel_rfl
theorem vO:Sz Tryz.prog 122 9:=by unfold Sz; kernel_rfl
theorem sz142:Sz Tryz.prog 142 1:=by unfold Sz; kernel_rfl
theorem sz143:Sz Tryz.prog 143 1:=by unfold Sz; kernel_rfl
theorem sz144:Sz Tryz.prog 144 1:=by unfold Sz; kernel_rfl
theorem pR:Sz Tryz.prog 148 2:=by unfold Sz; kernel_rfl
theorem aAm:Sz Tryz.prog 170 1:=by unfold Sz; kernel_rfl
theorem aHn:Sz Tryz.prog 172 3:=by unfold Sz; kernel_rfl
theorem kC:Sz Tryz.prog 226 7:=by unfold Sz; kernel_rfl
theorem sz243:Sz Tryz.prog 243 3:=by unfold Sz; kernel_rfl
theorem fM:dW Tryz.prog 3:=by unfold dW; kernel_rfl
theorem qY:dW Tryz.prog 4:=by unfold dW; kernel_rfl
theorem bF:dW Tryz.prog 9:=by unfold dW; kernel_rfl
theorem jS:dW Tryz.prog 22:=by unfold dW; kernel_rfl
theorem aHz:dW Tryz.prog 23:=by unfold dW; kernel_rfl
theorem rJ:dW Tryz.prog 24:=by unfold dW; kernel_rfl
theorem one28:dW Tryz.prog 28:=by unfold dW; kernel_rfl
theorem one30:dW Tryz.prog 30:=by unfold dW; kernel_rfl
theorem aEv:dW Tryz.prog 33:=by unfold dW; kernel_rfl
theorem rO:dW Tryz.prog 38:=by unfold dW; kernel_rfl
theorem one48:dW Tryz.prog 48:=by unfold dW; kernel_rfl
theorem aNk:dW Tryz.prog 55:=by unfold dW; kernel_rfl
theorem aNo:dW Tryz.prog 61:=by unfold dW; kernel_rfl
theorem tJ:dW Tryz.prog 68:=by unfold dW; kernel_rfl
theorem pU:dW Tryz.prog 105:=by unfold dW; kernel_rfl
theorem aOy:dW Tryz.prog 142:=by unfold dW; kernel_rfl
theorem aPx:dW Tryz.prog 143:=by unfold dW; kernel_rfl
theorem aBt:dW Tryz.prog 144:=by unfold dW; kernel_rfl
theorem wW:dW Tryz.prog 163:=by unfold dW; kernel_rfl
theorem kV:dW Tryz.prog 170:=by unfold dW; kernel_rfl
theorem qM:Agg Tryz.prog 26:=by unfold Agg; kernel_rfl
theorem aKx:Agg Tryz.prog 35:=by unfold Agg; kernel_rfl
theorem aLx:Agg Tryz.prog 37:=by unfold Agg; kernel_rfl
theorem aCn:Agg Tryz.prog 40:=by unfold Agg; kernel_rfl
theorem eG:Agg Tryz.prog 70:=by unfold Agg; kernel_rfl
theorem aHe:Agg Tryz.prog 95:=by unfold Agg; kernel_rfl
theorem aOp:Agg Tryz.prog 107:=by unfold Agg; kernel_rfl
theorem aJs:Agg Tryz.prog 122:=by unfold Agg; kernel_rfl
theorem aEl:Agg Tryz.prog 148:=by unfold Agg; kernel_rfl
theorem agg172:Agg Tryz.prog 172:=by unfold Agg; kernel_rfl
theorem qG:Agg Tryz.prog 226:=by unfold Agg; kernel_rfl
theorem agg243:Agg Tryz.prog 243:=by unfold Agg; kernel_rfl
theorem zero3:Go.OB.Zero Tryz.prog 3 ([i6 0]):=by unfold Go.OB.Zero; kernel_rfl
theorem zero9:Go.OB.Zero Tryz.prog 9 ([.string (bs [])]):=by unfold Go.OB.Zero; kernel_rfl
theorem zero22:Go.OB.Zero Tryz.prog 22 ([.slice none 0 0]):=by unfold Go.OB.Zero; kernel_rfl
theorem zero26:Go.OB.Zero Tryz.prog 26 ([.slice none 0 0,.slice none 0 0,.slice none 0 0]):=by unfold Go.OB.Zero; kernel_rfl
theorem zero28:Go.OB.Zero Tryz.prog 28 ([.slice none 0 0]):=by unfold Go.OB.Zero; kernel_rfl
theorem aNx:Go.OB.Zero Tryz.prog 37 ([.string (bs []),i6 0,.slice none 0 0,i6 0]):=by unfold Go.OB.Zero; kernel_rfl
theorem aJg:Go.OB.Zero Tryz.prog 40 ([i6 0,i6 0,i6 0]):=by unfold Go.OB.Zero; kernel_rfl
theorem zero48:Go.OB.Zero Tryz.prog 48 ([.nilFunc]):=by unfold Go.OB.Zero; kernel_rfl
theorem aB:Go.OB.Zero Tryz.prog 70 ([i6 0,.string (bs []),.string (bs []),i6 0,i6 0,i6 0,.slice none 0 0]):=by unfold Go.OB.Zero; kernel_rfl
theorem aFb:Go.OB.Zero Tryz.prog 95 ([.string (bs []),i6 0,.string (bs []),.string (bs []),i6 0,i6 0,i6 0,.slice none 0 0]):=by unfold Go.OB.Zero; kernel_rfl
theorem aSh:Go.OB.Zero Tryz.prog 107 ([i6 0,i6 0,i6 0,.string (bs [])]):=by unfold Go.OB.Zero; kernel_rfl
theorem zero111:Go.OB.Zero Tryz.prog 111 ([i6 0,i6 0]):=by unfold Go.OB.Zero; kernel_rfl
theorem aJi:Go.OB.Zero Tryz.prog 122 ([.string (bs []),.string (bs []),i6 0,.string (bs []),.string (bs []),i6 0,i6 0,i6 0,.slice none 0 0]):=by unfold Go.OB.Zero; kernel_rfl
theorem zero129:Go.OB.Zero Tryz.prog 129 ([.pointer none,.slice none 0 0]):=by unfold Go.OB.Zero; kernel_rfl
theorem wZ:Go.OB.Zero Tryz.prog 148 ([i6 0,.bool false]):=by unfold Go.OB.Zero; kernel_rfl
theorem aSl:Go.OB.Zero Tryz.prog 172 ([i6 0,i6 0,.nilIface]):=by unfold Go.OB.Zero; kernel_rfl
theorem aRt:Go.OB.Zero Tryz.prog 226 ([.bool false,.bool false,.bool false,.bool false,.bool false,i6 0,i6 0]):=by unfold Go.OB.Zero; kernel_rfl
theorem zero243:Go.OB.Zero Tryz.prog 243 ((Fl.arr 3 (Fl.int .i64)).f (Arr.rep 3 0:Arr 3 Int)):=by unfold Go.OB.Zero; kernel_rfl
theorem el3:El Tryz.prog 3 1 8 ([i6 0]):=⟨by kernel_rfl,by kernel_rfl,by kernel_rfl,by decide,by decide⟩
theorem el4:El Tryz.prog 4 1 1 ([.bool false]):=⟨by kernel_rfl,by kernel_rfl,by kernel_rfl,by decide,by decide⟩
theorem el5:El Tryz.prog 5 1 1 ([.int .u8 0]):=⟨by kernel_rfl,by kernel_rfl,by kernel_rfl,by decide,by decide⟩
theorem el9:El Tryz.prog 9 1 16 ([.string (bs [])]):=⟨by kernel_rfl,by kernel_rfl,by kernel_rfl,by decide,by decide⟩
theorem el38:El Tryz.prog 38 1 24 ([.slice none 0 0]):=⟨by kernel_rfl,by kernel_rfl,by kernel_rfl,by decide,by decide⟩
theorem aIw:El Tryz.prog 70 7 88 ([i6 0,.string (bs []),.string (bs []),i6 0,i6 0,i6 0,.slice none 0 0]):=⟨by kernel_rfl,by kernel_rfl,by kernel_rfl,by decide,by decide⟩
theorem el95:El Tryz.prog 95 8 104 ([.string (bs []),i6 0,.string (bs []),.string (bs []),i6 0,i6 0,i6 0,.slice none 0 0]):=⟨by kernel_rfl,by kernel_rfl,by kernel_rfl,by decide,by decide⟩
theorem aMa:El Tryz.prog 148 2 16 ([i6 0,.bool false]):=⟨by kernel_rfl,by kernel_rfl,by kernel_rfl,by decide,by decide⟩
theorem aMu:El Tryz.prog 170 1 16 ([.nilIface]):=⟨by kernel_rfl,by kernel_rfl,by kernel_rfl,by decide,by decide⟩
theorem el172:El Tryz.prog 172 3 32 ([i6 0,i6 0,.nilIface]):=⟨by kernel_rfl,by kernel_rfl,by kernel_rfl,by decide,by decide⟩
theorem z8_5:Z8 Tryz.prog 5:=by unfold Z8; kernel_rfl
theorem bz40:Tryz.prog.built 40 []=some ([i6 0,i6 0,i6 0]).toArray:=by kernel_rfl
theorem bz63:Tryz.prog.built 63 []=some ([.slice none 0 0]).toArray:=by kernel_rfl
theorem bz70:Tryz.prog.built 70 []=some ([i6 0,.string (bs []),.string (bs []),i6 0,i6 0,i6 0,.slice none 0 0]).toArray:=by kernel_rfl
theorem bz226:Tryz.prog.built 226 []=some ([.bool false,.bool false,.bool false,.bool false,.bool false,i6 0,i6 0]).toArray:=by kernel_rfl
theorem bt26_0_1 (a:Option Addr)(b c:Nat)(d:Option Addr)(e f:Nat):Tryz.prog.built 26 [(0,.slice a b c),(1,.slice d e f)]=some [.slice a b c,.slice d e f,.slice none 0 0].toArray:=by kernel_rfl
theorem bt70_0 (a:Int):Tryz.prog.built 70 [(0,i6 a)]=some [i6 a,.string (bs []),.string (bs []),i6 0,i6 0,i6 0,.slice none 0 0].toArray:=by kernel_rfl
theorem bt70_0_1 (a:Int)(b:Str):Tryz.prog.built 70 [(0,i6 a),(1,sb b)]=some [i6 a,sb b,.string (bs []),i6 0,i6 0,i6 0,.slice none 0 0].toArray:=by kernel_rfl
theorem aEh (a:Int)(b:Option Addr)(c d:Nat):Tryz.prog.built 70 [(0,i6 a),(6,.slice b c d)]=some [i6 a,.string (bs []),.string (bs []),i6 0,i6 0,i6 0,.slice b c d].toArray:=by kernel_rfl
theorem bt95_0 (a:Str):Tryz.prog.built 95 [(0,sb a)]=some [sb a,i6 0,.string (bs []),.string (bs []),i6 0,i6 0,i6 0,.slice none 0 0].toArray:=by kernel_rfl
theorem bt95_0_1 (a:Str)(b:Int)(c:Str)(d:Str)(e:Int)(f:Int)(h:Int)(i:Option Addr)(j k:Nat):Tryz.prog.built 95 [(0,sb a),(1,.agg [i6 b,sb c,sb d,i6 e,i6 f,i6 h,.slice i j k].toArray)]=some [sb a,i6 b,sb c,sb d,i6 e,i6 f,i6 h,.slice i j k].toArray:=by kernel_rfl
theorem bt107_0_1 (a:Int)(b:Int):Tryz.prog.built 107 [(0,i6 a),(1,i6 b)]=some [i6 a,i6 b,i6 0,.string (bs [])].toArray:=by kernel_rfl
theorem bt109_0 (a:Str):Tryz.prog.built 109 [(0,sb a)]=some [sb a,i6 0,i6 0,i6 0,i6 0,.string (bs []),.slice none 0 0,.slice none 0 0,.slice none 0 0].toArray:=by kernel_rfl
theorem aMh (a:Option Addr)(b c:Nat)(d:Int)(e:Option Addr)(f h:Nat):Tryz.prog.built 146 [(0,.slice a b c),(1,i6 d),(4,.slice e f h)]=some [.slice a b c,i6 d,.slice none 0 0,.slice none 0 0,.slice e f h].toArray:=by kernel_rfl
theorem bt148_0_1 (a:Int)(b:Bool):Tryz.prog.built 148 [(0,i6 a),(1,.bool b)]=some [i6 a,.bool b].toArray:=by kernel_rfl
theorem aMg (a:Int)(b:Int)(a2T:TypeId)(c:Value):Tryz.prog.built 172 [(0,i6 a),(1,i6 b),(2,.iface a2T c)]=some [i6 a,i6 b,.iface a2T c].toArray:=by kernel_rfl
theorem aLu (a:Option Nat)(b:Option Addr)(c d:Nat)(e:Option Nat):Tryz.prog.built 215 [(0,.map a),(2,.slice b c d),(3,.map e)]=some [.map a,.slice none 0 0,.slice b c d,.map e].toArray:=by kernel_rfl
theorem bt222_0 (a:Option Addr)(b c:Nat):Tryz.prog.built 222 [(0,.slice a b c)]=some [.slice a b c,.slice none 0 0,.slice none 0 0].toArray:=by kernel_rfl
theorem bt226_0 (a:Bool):Tryz.prog.built 226 [(0,.bool a)]=some [.bool a,.bool false,.bool false,.bool false,.bool false,i6 0,i6 0].toArray:=by kernel_rfl
theorem aMp (a:Bool)(b:Bool)(c:Bool):Tryz.prog.built 226 [(0,.bool a),(1,.bool b),(2,.bool c)]=some [.bool a,.bool b,.bool c,.bool false,.bool false,i6 0,i6 0].toArray:=by kernel_rfl
theorem aNu (a:Bool)(b:Bool)(c:Bool):Tryz.prog.built 226 [(0,.bool a),(2,.bool b),(3,.bool c)]=some [.bool a,.bool false,.bool b,.bool c,.bool false,i6 0,i6 0].toArray:=by kernel_rfl
theorem aMl (a:Bool)(b:Bool)(c:Bool):Tryz.prog.built 226 [(0,.bool a),(3,.bool b),(4,.bool c)]=some [.bool a,.bool false,.bool false,.bool b,.bool c,i6 0,i6 0].toArray:=by kernel_rfl
theorem aGj (a:Bool)(b:Bool)(c:Int)(d:Int):Tryz.prog.built 226 [(3,.bool a),(4,.bool b),(5,i6 c),(6,i6 d)]=some [.bool false,.bool false,.bool false,.bool a,.bool b,i6 c,i6 d].toArray:=by kernel_rfl
theorem aKu (a:Bool)(b:Int)(c:Int):Tryz.prog.built 226 [(4,.bool a),(5,i6 b),(6,i6 c)]=some [.bool false,.bool false,.bool false,.bool false,.bool a,i6 b,i6 c].toArray:=by kernel_rfl
theorem aCb (a:Int)(b:Int):Tryz.prog.built 226 [(5,i6 a),(6,i6 b)]=some [.bool false,.bool false,.bool false,.bool false,.bool false,i6 a,i6 b].toArray:=by kernel_rfl
theorem aNt (a:Int)(b:Int)(c:Int):Tryz.prog.built 241 [(0,i6 a),(1,i6 b),(2,i6 c)]=some [i6 a,i6 b,i6 c,.slice none 0 0].toArray:=by kernel_rfl
theorem uN (a0T:TypeId)(a:Value)(b:Int)(c:Int):Tryz.prog.built 245 [(0,.iface a0T a),(1,i6 b),(2,i6 c)]=some [.iface a0T a,i6 b,i6 c,.slice none 0 0,i6 0,i6 0,i6 0].toArray:=by kernel_rfl
theorem bt248_0 (a0T:TypeId)(a:Value):Tryz.prog.built 248 [(0,.iface a0T a)]=some [.iface a0T a].toArray:=by kernel_rfl
theorem bt251_0_1 (a:Option Addr)(b c:Nat)(d:Bool):Tryz.prog.built 251 [(0,.slice a b c),(1,.bool d)]=some [.slice a b c,.bool d].toArray:=by kernel_rfl
theorem bt255_0_1 (a0T:TypeId)(a:Value)(a1T:TypeId)(b:Value):Tryz.prog.built 255 [(0,.iface a0T a),(1,.iface a1T b)]=some [.iface a0T a,.iface a1T b,i6 0,.bool false].toArray:=by kernel_rfl
theorem bt258_0 (a0T:TypeId)(a:Value):Tryz.prog.built 258 [(0,.iface a0T a)]=some [.iface a0T a,i6 0,.bool false].toArray:=by kernel_rfl
theorem aQx (a:Int):Tryz.prog.built 277 [(0,i6 a)]=some [i6 a].toArray:=by kernel_rfl
theorem aNp (a:Int)(b:Int)(c:Int):Tryz.prog.built 279 [(0,i6 a),(1,i6 b),(2,i6 c)]=some [i6 a,i6 b,i6 c].toArray:=by kernel_rfl
theorem aCt (a:Int)(b:Int)(c:Int)(d:Int)(e:Int):Tryz.prog.built 281 [(0,i6 a),(1,i6 b),(2,i6 c),(3,i6 d),(4,i6 e)]=some [i6 a,i6 b,i6 c,i6 d,i6 e].toArray:=by kernel_rfl
theorem bt283_0 (a:Int):Tryz.prog.built 283 [(0,i6 a)]=some [i6 a].toArray:=by kernel_rfl
theorem bt285_0 (a:Int):Tryz.prog.built 285 [(0,i6 a)]=some [i6 a].toArray:=by kernel_rfl
abbrev gV (b:Nat):Value:= .pointer (some ⟨b,0,none⟩)
abbrev fP:=Rt.row dA 172 []
abbrev fO:=Rt.row fG 170 []
def FAt (t i m:Nat):Prop:= ∀{ρ:Env} {w:World} {d:Option Tmp} {x:Operand} {ty:TypeId} {pos:String} {af:Array Edge} {g:Option (Nat×Bool)} {b o:Nat} (_:ev ρ x= .pointer (some ⟨b,o,none⟩)),Do Tryz.prog ⟨d,.fieldAddr t x i,ty,pos,af,g⟩ ρ w (.pointer (some ⟨b,o+m,none⟩)) w
theorem faO {t i m:Nat}(n:Nat)(h:aEq Tryz.prog t i=some (m,some n):=by kernel_rfl)(hn:n≠0:=by decide):FAt t i m:=fun hx=>aGl h hn hx
theorem jY:FAt 26 0 0:=faO 1
theorem aBu:FAt 26 1 1:=faO 1
theorem kY:FAt 26 2 2:=faO 1
theorem fa35_0:FAt 35 0 0:=faO 1
theorem wS:FAt 35 1 1:=faO 1
theorem aFo:FAt 37 0 0:=faO 1
theorem aPu:FAt 37 1 1:=faO 2
theorem fa37_2:FAt 37 2 3:=faO 1
theorem aFy:FAt 40 0 0:=faO 1
theorem aPi:FAt 40 1 1:=faO 1
theorem aPq:FAt 40 2 2:=faO 1
theorem aEp:FAt 63 0 0:=faO 1
theorem jB:FAt 70 0 0:=faO 1
theorem nK:FAt 70 1 1:=faO 1
theorem aIt:FAt 70 2 2:=faO 1
theorem rY:FAt 70 3 3:=faO 1
theorem pM:FAt 70 4 4:=faO 1
theorem sQ:FAt 70 5 5:=faO 1
theorem jJ:FAt 70 6 6:=faO 1
theorem aBn:FAt 95 0 0:=faO 1
theorem vY:FAt 95 1 1:=faO 7
theorem kQ:FAt 107 0 0:=faO 1
theorem fa107_2:FAt 107 2 2:=faO 1
theorem sJ:FAt 107 3 3:=faO 1
theorem sV:FAt 109 0 0:=faO 1
theorem kR:FAt 109 1 1:=faO 1
theorem dX:FAt 109 2 2:=faO 4
theorem aDn:FAt 109 3 6:=faO 3
theorem fa111_1:FAt 111 1 1:=faO 1
theorem aSm:FAt 122 0 0:=faO 1
theorem aRa:FAt 122 1 1:=faO 1
theorem aDb:FAt 122 2 2:=faO 7
theorem aJc:FAt 129 1 1:=faO 1
theorem aSp:FAt 146 0 0:=faO 1
theorem aDj:FAt 146 2 2:=faO 1
theorem aJf:FAt 146 3 3:=faO 1
theorem aBk:FAt 146 4 4:=faO 1
theorem sO:FAt 148 0 0:=faO 1
theorem aDa:FAt 148 1 1:=faO 1
theorem fa172_0:FAt 172 0 0:=faO 1
theorem fa172_1:FAt 172 1 1:=faO 1
theorem fa172_2:FAt 172 2 2:=faO 1
theorem aAq:FAt 215 0 0:=faO 1
theorem aDk:FAt 215 1 1:=faO 1
theorem fa215_2:FAt 215 2 2:=faO 1
theorem aRh:FAt 215 3 3:=faO 1
theorem aDg:FAt 222 0 0:=faO 1
theorem aKc:FAt 222 1 1:=faO 1
theorem aDc:FAt 222 2 2:=faO 1
theorem aRi:FAt 226 0 0:=faO 1
theorem aQy:FAt 226 1 1:=faO 1
theorem aTb:FAt 226 2 2:=faO 1
theorem aQp:FAt 226 3 3:=faO 1
theorem aRy:FAt 226 4 4:=faO 1
theorem fa226_5:FAt 226 5 5:=faO 1
theorem fa226_6:FAt 226 6 6:=faO 1
theorem fa241_0:FAt 241 0 0:=faO 1
theorem fa241_1:FAt 241 1 1:=faO 1
theorem aSr:FAt 241 2 2:=faO 1
theorem aRk:FAt 241 3 3:=faO 1
theorem fa245_0:FAt 245 0 0:=faO 1
theorem aQk:FAt 245 1 1:=faO 1
theorem aRf:FAt 245 2 2:=faO 1
theorem vI:FAt 245 3 3:=faO 1
theorem aAl:FAt 245 4 4:=faO 3
theorem fa248_0:FAt 248 0 0:=faO 1
theorem fa251_0:FAt 251 0 0:=faO 1
theorem fa251_1:FAt 251 1 1:=faO 1
theorem fa255_0:FAt 255 0 0:=faO 1
theorem fa255_1:FAt 255 1 1:=faO 1
theorem aKl:FAt 255 2 2:=faO 1
theorem fa255_3:FAt 255 3 3:=faO 1
theorem fa258_0:FAt 258 0 0:=faO 1
theorem aKm:FAt 258 1 1:=faO 1
theorem fa258_2:FAt 258 2 2:=faO 1
theorem fa277_0:FAt 277 0 0:=faO 1
theorem fa279_0:FAt 279 0 0:=faO 1
theorem fa279_1:FAt 279 1 1:=faO 1
theorem fa279_2:FAt 279 2 2:=faO 1
theorem fa281_0:FAt 281 0 0:=faO 1
theorem fa281_1:FAt 281 1 1:=faO 1
theorem fa281_2:FAt 281 2 2:=faO 1
theorem fa281_3:FAt 281 3 3:=faO 1
theorem fa281_4:FAt 281 4 4:=faO 1
theorem fa283_0:FAt 283 0 0:=faO 1
theorem fa285_0:FAt 285 0 0:=faO 1
theorem en15:En 15:=fQ Tryz.func15
theorem en18:En 18:=fQ Tryz.func18
theorem en20:En 20:=fQ Tryz.func20
theorem en21:En 21:=fQ Tryz.func21
theorem en27:En 27:=fQ Tryz.func27
theorem en28:En 28:=fQ Tryz.func28
theorem en29:En 29:=fQ Tryz.func29
theorem en31:En 31:=fQ Tryz.func31
theorem en38:En 38:=fQ Tryz.func38
theorem en47:En 47:=fQ Tryz.func47
theorem en51:En 51:=fQ Tryz.func51
theorem en53:En 53:=fQ Tryz.func53
theorem en54:En 54:=fQ Tryz.func54
theorem en57:En 57:=fQ Tryz.func57
theorem en58:En 58:=fQ Tryz.func58
theorem en68:En 68:=fQ Tryz.func68
theorem en69:En 69:=fQ Tryz.func69
theorem en70:En 70:=fQ Tryz.func70
theorem en71:En 71:=fQ Tryz.func71
theorem en73:En 73:=fQ Tryz.func73
theorem en74:En 74:=fQ Tryz.func74
theorem en75:En 75:=fQ Tryz.func75
theorem aQe:En 76:=fQ Tryz.func76
theorem en77:En 77:=fQ Tryz.func77
theorem en78:En 78:=fQ Tryz.func78
theorem en80:En 80:=fQ Tryz.func80
theorem aNh:En 81:=fQ Tryz.func81
theorem en82:En 82:=fQ Tryz.func82
theorem en86:En 86:=fQ Tryz.func86
theorem en87:En 87:=fQ Tryz.func87
theorem en88:En 88:=fQ Tryz.func88
theorem en89:En 89:=fQ Tryz.func89
theorem en95:En 95:=fQ Tryz.func95
theorem en99:En 99:=fQ Tryz.func99
theorem en100:En 100:=fQ Tryz.func100
theorem en112:En 112:=fQ Tryz.func112
theorem en115:En 115:=fQ Tryz.func115
theorem aGe:En 120:=fQ Tryz.func120
theorem aFn:En 121:=fQ Tryz.func121
theorem en122:En 122:=fQ Tryz.func122
theorem en123:En 123:=fQ Tryz.func123
theorem en124:En 124:=fQ Tryz.func124
theorem en129:En 129:=fQ Tryz.func129
theorem en130:En 130:=fQ Tryz.func130
theorem en131:En 131:=fQ Tryz.func131
theorem en132:En 132:=fQ Tryz.func132
theorem en134:En 134:=fQ Tryz.func134
theorem en135:En 135:=fQ Tryz.func135
theorem aMx:En 136:=fQ Tryz.func136
theorem en137:En 137:=fQ Tryz.func137
theorem en138:En 138:=fQ Tryz.func138
theorem en139:En 139:=fQ Tryz.func139
theorem en140:En 140:=fQ Tryz.func140
theorem en141:En 141:=fQ Tryz.func141
theorem en142:En 142:=fQ Tryz.func142
theorem en144:En 144:=fQ Tryz.func144
theorem en145:En 145:=fQ Tryz.func145
theorem en146:En 146:=fQ Tryz.func146
theorem en147:En 147:=fQ Tryz.func147
theorem en148:En 148:=fQ Tryz.func148
theorem en149:En 149:=fQ Tryz.func149
theorem en150:En 150:=fQ Tryz.func150
theorem en152:En 152:=fQ Tryz.func152
theorem en153:En 153:=fQ Tryz.func153
theorem en155:En 155:=fQ Tryz.func155
theorem en157:En 157:=fQ Tryz.func157
theorem en166:En 166:=fQ Tryz.func166
theorem en168:En 168:=fQ Tryz.func168
theorem en169:En 169:=fQ Tryz.func169
theorem en174:En 174:=fQ Tryz.func174
theorem en175:En 175:=fQ Tryz.func175
theorem en176:En 176:=fQ Tryz.func176
theorem en177:En 177:=fQ Tryz.func177
theorem en178:En 178:=fQ Tryz.func178
theorem en179:En 179:=fQ Tryz.func179
theorem en180:En 180:=fQ Tryz.func180
theorem en181:En 181:=fQ Tryz.func181
theorem en188:En 188:=fQ Tryz.func188
theorem en189:En 189:=fQ Tryz.func189
theorem en190:En 190:=fQ Tryz.func190
theorem en191:En 191:=fQ Tryz.func191
theorem en192:En 192:=fQ Tryz.func192
theorem en194:En 194:=fQ Tryz.func194
theorem en196:En 196:=fQ Tryz.func196
theorem en208:En 208:=fQ Tryz.func208
theorem en213:En 213:=fQ Tryz.func213
theorem en214:En 214:=fQ Tryz.func214
theorem en215:En 215:=fQ Tryz.func215
theorem en216:En 216:=fQ Tryz.func216
theorem en217:En 217:=fQ Tryz.func217
theorem en218:En 218:=fQ Tryz.func218
theorem en219:En 219:=fQ Tryz.func219
theorem aQl:En 226:=fQ Tryz.func226
theorem en227:En 227:=fQ Tryz.func227
theorem en228:En 228:=fQ Tryz.func228
theorem en257:En 257:=fQ Tryz.func257
theorem en261:En 261:=fQ Tryz.func261
theorem en262:En 262:=fQ Tryz.func262
theorem en270:En 270:=fQ Tryz.func270
theorem en310:En 310:=fQ Tryz.func310
theorem en313:En 313:=fQ Tryz.func313
theorem en316:En 316:=fQ Tryz.func316
theorem en317:En 317:=fQ Tryz.func317
theorem en319:En 319:=fQ Tryz.func319
theorem en321:En 321:=fQ Tryz.func321
theorem en323:En 323:=fQ Tryz.func323
theorem en325:En 325:=fQ Tryz.func325
theorem en327:En 327:=fQ Tryz.func327
theorem en328:En 328:=fQ Tryz.func328
theorem en329:En 329:=fQ Tryz.func329
theorem aLq:En 330:=fQ Tryz.func330
theorem en332:En 332:=fQ Tryz.func332
theorem en333:En 333:=fQ Tryz.func333
theorem en335:En 335:=fQ Tryz.func335
theorem en337:En 337:=fQ Tryz.func337
theorem mixed:Tryz.prog.follows .mixedOrders=true:=by kernel_rfl
set_option maxRecDepth 100000 in
theorem Fbkw (d:Int)(r:Bool)(c:Fbk d=some r)(O S:List Nat)(w:World)(H:Hd O w w S []):
  Cl 145 [.int .u8 d] w fun e p=>e= .returned (.bool r)∧Hd O w p S []:=by
 unfold Fbk at c
 refine CW 21 Tryz.func145 ?_
 refine zB fun F q=>zA<| zI (.bool false)<| RN q ?_
 obtain ⟨k,c,s⟩:=zC c
 refine yK [2,3,4,5,6,7,8,9,10,11,12,13,14,15,16,17,18,19,20] (fun (g:Unit)=>[(2,.bool k)]) (fun g wl=>Hd O w wl S []) ?_ ?_
 ·skip
  refine zA ?_
  refine zH (.int .u8 d) ?_
  obtain ⟨t,u,c⟩:=zD c
  refine zG (zL (kZ (a:=d) (b:=97) rfl rfl) u) ?_
  obtain ⟨l,c,x⟩:=zC c
  refine bJ 4 [5,6,7,8] [(8,.bool l)] (fun wl=>Hd O w wl S []) ?_ ?_
  ·skip
   refine yS (b:=t) rfl rfl rfl (fun f=>?_) (fun f=>?_)
   ·have c:=zO f c
    refine zH (.int .u8 d) ?_
    obtain ⟨y,z,c⟩:=zD c
    refine zG (zL (sU (a:=d) (b:=122) rfl rfl) z)<| zG (yO (v:= .bool y) rfl rfl) ?_
    obtain rfl:=gI c
    exact yA (zF (meet ⟨(zJ rfl zK),H.pick []⟩))
   have c:=zQ f c
   refine yG ?_
   refine yG ?_
   refine zG (yM (v:= .bool false) rfl rfl) ?_
   obtain rfl:=gI c
   exact yA (zF (meet ⟨(zJ rfl zK),H.pick []⟩))
  rintro ρ G H
  have c:=x
  obtain ⟨m,c,A⟩:=zC c
  refine bJ 8 [9,10,11,12,13,14,15,16] [(16,.bool m)] (fun wl=>Hd O w wl S []) ?_ ?_
  ·skip
   refine yS (b:=l) rfl rfl rfl (fun h=>?_) (fun h=>?_)
   ·have c:=zO h c
    refine yG ?_
    refine yG ?_
    refine yG ?_
    refine yG ?_
    refine yG ?_
    refine yG ?_
    refine zG (yO (v:= .bool true) rfl rfl) ?_
    obtain rfl:=gI c
    exact yA (zF (meet ⟨(zJ rfl zK),H.pick []⟩))
   have c:=zQ h c
   refine zH (.int .u8 d) ?_
   obtain ⟨B,C,c⟩:=zD c
   refine zG (zL (kZ (a:=d) (b:=48) rfl rfl) C)<| yS (b:=B) rfl rfl rfl (fun i=>?_) (fun i=>?_)
   ·have c:=zO i c
    refine zH (.int .u8 d) ?_
    obtain ⟨n,D,c⟩:=zD c
    refine zG (zL (sU (a:=d) (b:=57) rfl rfl) D)<| zG (yO (v:= .bool n) rfl rfl)<| zG (yM (v:= .bool n) rfl rfl) ?_
    obtain rfl:=gI c
    exact yA (zF (meet ⟨(zJ rfl zK),H.pick []⟩))
   have c:=zQ i c
   refine yG ?_
   refine yG ?_
   refine zG (yM (v:= .bool false) rfl rfl)<| zG (yM (v:= .bool false) rfl rfl) ?_
   obtain rfl:=gI c
   exact yA (zF (meet ⟨(zJ rfl zK),H.pick []⟩))
  rintro ρ I H
  have c:=A
  refine yS (b:=m) rfl rfl rfl (fun j=>?_) (fun j=>?_)
  ·have c:=zO j c
   refine yG ?_
   refine yG ?_
   refine zG (yO (v:= .bool true) rfl rfl)<| zI (.bool true) ?_
   obtain rfl:=gI c
   exact (yA (zF (meet ⟨(),(zJ rfl zK),H.pick []⟩)))
  have c:=zQ j c
  refine zH (.int .u8 d) ?_
  obtain ⟨o,E,c⟩:=zD c
  refine zG (zL (yR (a:=d) (b:=45) rfl rfl) E)<| zG (yM (v:= .bool o) rfl rfl)<| zI (.bool o) ?_
  obtain rfl:=gI c
  exact (yA (zF (meet ⟨(),(zJ rfl zK),H.pick []⟩)))
 rintro _ ρ J H
 have c:=s
 obtain rfl:=gI c
 refine (zW (fC (v1:= .bool k) rfl rfl ?_))
 exact ⟨rfl,H.pick []⟩
set_option maxRecDepth 100000 in
theorem Fbew (c:Str)(r:Bool)(a:Fbe c=some r)(O S:List Nat)(w:World)(H:Hd O w w S []):
  Cl 144 [sb c] w fun e P=>e= .returned (.bool r)∧Hd O w P S []:=by
 unfold Fbe at a
 refine CW 21 Tryz.func144 ?_
 refine zB fun K1 Q=>zA<| zI (.bool false)<| RN Q<| zB fun a7 R=>zB fun a8 T=>zA<| zH (sb c)<| RN T<| yD ?_
 obtain ⟨x,a,U⟩:=zC a
 refine yK [4,5,6,7,8,9,10,11,12,13,14,15,16,17,18,19,20] (fun (g:Unit)=>[(4,.bool x)]) (fun g wl=>Hd O w wl S []) ?_ ?_
 ·skip
  refine zB fun a9 V=>zA ?_
  obtain ⟨y,X,a⟩:=zD a
  refine zG (zL (wB (s1:=c) (s2:=[112,104,97,115,101]) rfl rfl) X)<| zI (.bool y)<| RN V<| zY (b:=y) rfl (fun d=>?_) (fun d=>?_)
  ·have a:=zO d a
   obtain rfl:=gI a
   exact (zX (zF (meet ⟨(),(zJ rfl zK),H.pick []⟩)))
  have a:=zQ d a
  refine zB fun ba Y=>zA ?_
  obtain ⟨z,Z,a⟩:=zD a
  refine zG (zL (wB (s1:=c) (s2:=[109,111,118,101]) rfl rfl) Z)<| zI (.bool z)<| RN Y<| zY (b:=z) rfl (fun f=>?_) (fun f=>?_)
  ·have a:=zO f a
   obtain rfl:=gI a
   exact (zX (zF (meet ⟨(),(zJ rfl zK),H.pick []⟩)))
  have a:=zQ f a
  refine zB fun bb aa=>zA ?_
  obtain ⟨A,ab,a⟩:=zD a
  refine zG (zL (wB (s1:=c) (s2:=[114,117,108,101]) rfl rfl) ab)<| zI (.bool A)<| RN aa<| zY (b:=A) rfl (fun h=>?_) (fun h=>?_)
  ·have a:=zO h a
   obtain rfl:=gI a
   exact (zX (zF (meet ⟨(),(zJ rfl zK),H.pick []⟩)))
  have a:=zQ h a
  refine zB fun bc ac=>zA ?_
  obtain ⟨B,ad,a⟩:=zD a
  refine zG (zL (wB (s1:=c) (s2:=[105,102]) rfl rfl) ad)<| zI (.bool B)<| RN ac<| zY (b:=B) rfl (fun i=>?_) (fun i=>?_)
  ·have a:=zO i a
   obtain rfl:=gI a
   exact (zX (zF (meet ⟨(),(zJ rfl zK),H.pick []⟩)))
  have a:=zQ i a
  refine zB fun bd ae=>zA ?_
  obtain ⟨C,af,a⟩:=zD a
  refine zG (zL (wB (s1:=c) (s2:=[111,114]) rfl rfl) af)<| zI (.bool C)<| RN ae<| zY (b:=C) rfl (fun j=>?_) (fun j=>?_)
  ·have a:=zO j a
   obtain rfl:=gI a
   exact (zX (zF (meet ⟨(),(zJ rfl zK),H.pick []⟩)))
  have a:=zQ j a
  refine zB fun be ag=>zA ?_
  obtain ⟨D,ah,a⟩:=zD a
  refine zG (zL (wB (s1:=c) (s2:=[97,110,100]) rfl rfl) ah)<| zI (.bool D)<| RN ag<| zY (b:=D) rfl (fun k=>?_) (fun k=>?_)
  ·have a:=zO k a
   obtain rfl:=gI a
   exact (zX (zF (meet ⟨(),(zJ rfl zK),H.pick []⟩)))
  have a:=zQ k a
  refine zB fun bf ai=>zA ?_
  obtain ⟨E,aj,a⟩:=zD a
  refine zG (zL (wB (s1:=c) (s2:=[116,114,117,101]) rfl rfl) aj)<| zI (.bool E)<| RN ai<| zY (b:=E) rfl (fun l=>?_) (fun l=>?_)
  ·have a:=zO l a
   obtain rfl:=gI a
   exact (zX (zF (meet ⟨(),(zJ rfl zK),H.pick []⟩)))
  have a:=zQ l a
  refine zB fun bg ak=>zA ?_
  obtain ⟨F,al,a⟩:=zD a
  refine zG (zL (wB (s1:=c) (s2:=[102,97,108,115,101]) rfl rfl) al)<| zI (.bool F)<| RN ak<| zY (b:=F) rfl (fun m=>?_) (fun m=>?_)
  ·have a:=zO m a
   obtain rfl:=gI a
   exact (zX (zF (meet ⟨(),(zJ rfl zK),H.pick []⟩)))
  have a:=zQ m a
  refine zB fun bh am=>zA ?_
  obtain ⟨G,an,a⟩:=zD a
  refine zG (zL (wB (s1:=c) (s2:=[115,116,101,97,100,121]) rfl rfl) an)<| zI (.bool G)<| RN am<| zY (b:=G) rfl (fun n=>?_) (fun n=>?_)
  ·have a:=zO n a
   obtain rfl:=gI a
   exact (zX (zF (meet ⟨(),(zJ rfl zK),H.pick []⟩)))
  have a:=zQ n a
  refine zB fun bi ao=>zA ?_
  obtain ⟨I,ap,a⟩:=zD a
  refine zG (zL (wB (s1:=c) (s2:=[110,111,116]) rfl rfl) ap)<| zI (.bool I)<| RN ao<| zY (b:=I) rfl (fun o=>?_) (fun o=>?_)
  ·have a:=zO o a
   obtain rfl:=gI a
   exact (zX (zF (meet ⟨(),(zJ rfl zK),H.pick []⟩)))
  have a:=zQ o a
  refine zB fun bj aq=>zA ?_
  obtain ⟨J,ar,a⟩:=zD a
  refine zG (zL (wB (s1:=c) (s2:=[102,111,114]) rfl rfl) ar)<| zI (.bool J)<| RN aq<| zY (b:=J) rfl (fun p=>?_) (fun p=>?_)
  ·have a:=zO p a
   obtain rfl:=gI a
   exact (zX (zF (meet ⟨(),(zJ rfl zK),H.pick []⟩)))
  have a:=zQ p a
  refine zB fun bk au=>zA ?_
  obtain ⟨K,av,a⟩:=zD a
  refine zG (zL (wB (s1:=c) (s2:=[119,105,116,104,105,110]) rfl rfl) av)<| zI (.bool K)<| RN au<| zY (b:=K) rfl (fun q=>?_) (fun q=>?_)
  ·have a:=zO q a
   obtain rfl:=gI a
   exact (zX (zF (meet ⟨(),(zJ rfl zK),H.pick []⟩)))
  have a:=zQ q a
  refine zB fun bl aw=>zA ?_
  obtain ⟨L,ax,a⟩:=zD a
  refine zG (zL (wB (s1:=c) (s2:=[99,111,117,110,116]) rfl rfl) ax)<| zI (.bool L)<| RN aw<| zY (b:=L) rfl (fun s=>?_) (fun s=>?_)
  ·have a:=zO s a
   obtain rfl:=gI a
   exact (zX (zF (meet ⟨(),(zJ rfl zK),H.pick []⟩)))
  have a:=zQ s a
  refine zB fun bm ay=>zA ?_
  obtain ⟨M,az,a⟩:=zD a
  refine zG (zL (wB (s1:=c) (s2:=[111,102]) rfl rfl) az)<| zI (.bool M)<| RN ay<| zY (b:=M) rfl (fun t=>?_) (fun t=>?_)
  ·have a:=zO t a
   obtain rfl:=gI a
   exact (zX (zF (meet ⟨(),(zJ rfl zK),H.pick []⟩)))
  have a:=zQ t a
  refine zB fun bn a0=>zA ?_
  obtain ⟨N,a1,a⟩:=zD a
  refine zG (zL (wB (s1:=c) (s2:=[114,105,115,101,115]) rfl rfl) a1)<| zI (.bool N)<| RN a0<| zY (b:=N) rfl (fun u=>?_) (fun u=>?_)
  ·have a:=zO u a
   obtain rfl:=gI a
   exact (zX (zF (meet ⟨(),(zJ rfl zK),H.pick []⟩)))
  have a:=zQ u a
  refine zA ?_
  obtain ⟨a2,a3,a⟩:=zD a
  refine zG (zL (wB (s1:=c) (s2:=[115,105,110,99,101]) rfl rfl) a3)<| zI (.bool a2) ?_
  obtain rfl:=gI a
  exact (yA (zF (meet ⟨(),(zJ rfl zK),H.pick []⟩)))
 rintro _ ρ bo H
 have a:=U
 refine zY (b:=x) rfl (fun v=>?_) (fun v=>?_)
 ·have a:=zO v a
  refine zB fun bp a4=>zA<| zI (.bool true)<| RN a4 ?_
  obtain rfl:=gI a
  refine (zW (yE (zV (fC (v1:= .bool true) rfl rfl ?_))))
  exact ⟨rfl,H.pick []⟩
 have a:=zQ v a
 refine (zX (yH (zF (R _ _ ?_))))
 refine zB fun bq a5=>zA<| zI (.bool false)<| RN a5 ?_
 obtain rfl:=gI a
 refine (zW (fC (v1:= .bool false) rfl rfl ?_))
 exact ⟨rfl,H.pick []⟩
theorem aPb (d:Int)(f:Int)(h:Int)(r:Bool)(c:Faf d f h=some r)(O S:List Nat)(w:World)(H:Hd O w w S []):
  Cl 76 [i6 d,i6 f,i6 h] w fun e l=>e= .returned (.bool r)∧Hd O w l S []:=by
 unfold Faf at c
 refine CW 15 Tryz.func76 ?_
 refine zB fun s m=>zA<| zI (.bool false)<| RN m ?_
 obtain ⟨j,c,n⟩:=zC c
 refine yK [6,7,8,9,10,11,12,13,14] (fun (g:Unit)=>[(6,.bool j)]) (fun g wl=>Hd O w wl S []) ?_ ?_
 ·skip
  refine zA ?_
  refine zH (i6 d)<| zH (i6 f) ?_
  obtain ⟨o,p,c⟩:=zD c
  refine zG (zL (kZ (a:=d) (b:=f) rfl rfl) p)<| yS (b:=o) rfl rfl rfl (fun i=>?_) (fun i=>?_)
  ·have c:=zO i c
   refine zH (i6 d)<| zH (i6 h) ?_
   obtain ⟨k,q,c⟩:=zD c
   refine zG (zL (sU (a:=d) (b:=h) rfl rfl) q)<| zG (yO (v:= .bool k) rfl rfl)<| zI (.bool k) ?_
   obtain rfl:=gI c
   exact (yA (zF (meet ⟨(),(zJ rfl zK),H.pick []⟩)))
  have c:=zQ i c
  refine yG ?_
  refine yG ?_
  refine yG ?_
  refine zG (yM (v:= .bool false) rfl rfl)<| zI (.bool false) ?_
  obtain rfl:=gI c
  exact (yA (zF (meet ⟨(),(zJ rfl zK),H.pick []⟩)))
 rintro _ ρ t H
 have c:=n
 obtain rfl:=gI c
 refine (zW (fC (v1:= .bool j) rfl rfl ?_))
 exact ⟨rfl,H.pick []⟩
set_option maxRecDepth 100000 in
theorem Fagw (d:Str)(r:Bool)(c:Fag d=some r)(O S:List Nat)(w:World)(H:Hd O w w S []):
  Cl 86 [sb d] w fun e x=>e= .returned (.bool r)∧Hd O w x S []:=by
 unfold Fag at c
 refine CW 33 Tryz.func86 ?_
 refine zB fun K1 y=>zA<| zI (.bool false)<| RN y<| zB fun a5 z=>?_
 obtain ⟨n,c,A⟩:=zC c
 refine yK [4,5,6,7,8,9,10,11,12,13,14,15,16,17,18,19,20,21] (fun (g:Unit)=>[(21,.bool n)]) (fun g wl=>Hd O w wl S []) ?_ ?_
 ·skip
  refine zA ?_
  refine zH (sb d) ?_
  obtain ⟨B,C,c⟩:=zD c
  refine zG (yJ (kP (s1:=d) u9 rfl) (congrArg (Value.int .i64) C)) ?_
  have D:=H
  obtain ⟨E,F,c⟩:=zC c
  refine zZ rfl rfl (zS aQe rfl) (aPb B 1 30 _ F _ _ _ (H.enter [] [])) ?_
  rintro _ a6 ⟨rfl,G⟩
  have H:=D.step (G.only:Only [] _ _)
  refine ⟨_,rfl,?_⟩
  obtain ⟨I,J,c⟩:=zD c
  refine zG (zL (wH (p:=E) rfl) J) ?_
  obtain ⟨o,c,K⟩:=zC c
  refine bJ 5 [8,9,10,11,12] [(12,.bool o)] (fun wl=>Hd O w wl S []) ?_ ?_
  ·skip
   refine yS (b:=I) rfl rfl rfl (fun h=>?_) (fun h=>?_)
   ·have c:=zO h c
    refine yG ?_
    refine yG ?_
    refine yG ?_
    refine zG (yO (v:= .bool true) rfl rfl) ?_
    obtain rfl:=gI c
    exact yA (zF (meet ⟨(zJ rfl zK),H.pick []⟩))
   have c:=zQ h c
   refine zH (sb d) ?_
   obtain ⟨L,M,c⟩:=zC c
   refine zG (aAn (s1:=d) (q:=0) u9 rfl rfl M) ?_
   obtain ⟨N,P,c⟩:=zD c
   refine zG (zL (xP (a:=L) (b:=97) rfl rfl) P)<| zG (yM (v:= .bool N) rfl rfl) ?_
   obtain rfl:=gI c
   exact yA (zF (meet ⟨(zJ rfl zK),H.pick []⟩))
  rintro ρ a7 H
  have c:=K
  obtain ⟨s,c,Q⟩:=zC c
  refine bJ 5 [13,14,15,16,17] [(17,.bool s)] (fun wl=>Hd O w wl S []) ?_ ?_
  ·skip
   refine yS (b:=o) rfl rfl rfl (fun i=>?_) (fun i=>?_)
   ·have c:=zO i c
    refine yG ?_
    refine yG ?_
    refine yG ?_
    refine zG (yO (v:= .bool true) rfl rfl) ?_
    obtain rfl:=gI c
    exact yA (zF (meet ⟨(zJ rfl zK),H.pick []⟩))
   have c:=zQ i c
   refine zH (sb d) ?_
   obtain ⟨R,T,c⟩:=zC c
   refine zG (aAn (s1:=d) (q:=0) u9 rfl rfl T) ?_
   obtain ⟨U,V,c⟩:=zD c
   refine zG (zL (aI (a:=R) (b:=122) rfl rfl) V)<| zG (yM (v:= .bool U) rfl rfl) ?_
   obtain rfl:=gI c
   exact yA (zF (meet ⟨(zJ rfl zK),H.pick []⟩))
  rintro ρ a8 H
  have c:=Q
  refine yS (b:=s) rfl rfl rfl (fun j=>?_) (fun j=>?_)
  ·have c:=zO j c
   refine yG ?_
   refine yG ?_
   refine zG (yO (v:= .bool true) rfl rfl) ?_
   obtain rfl:=gI c
   exact (yA (zF (meet ⟨(),(zJ rfl zK),H.pick []⟩)))
  have c:=zQ j c
  refine zH (sb d) ?_
  have X:=H
  obtain ⟨Y,Z,c⟩:=zC c
  refine zZ rfl rfl (zS en144 rfl) (Fbew d _ Z _ _ _ (H.enter [] [])) ?_
  rintro _ a9 ⟨rfl,aa⟩
  have H:=X.step (aa.only:Only [] _ _)
  refine ⟨_,rfl,?_⟩
  refine zG (yM (v:= .bool Y) rfl rfl) ?_
  obtain rfl:=gI c
  exact (yA (zF (meet ⟨(),(zJ rfl zK),H.pick []⟩)))
 rintro _ ρ ba H
 have c:=A
 refine zY (b:=n) rfl (fun k=>?_) (fun k=>?_)
 ·have c:=zO k c
  refine zB fun bb ab=>zA<| zI (.bool false)<| RN ab ?_
  obtain rfl:=gI c
  refine (zW (zV (fC (v1:= .bool false) rfl rfl ?_)))
  exact ⟨rfl,H.pick []⟩
 have c:=zQ k c
 refine zX (zF (z _ _ ?_))
 obtain ⟨ac,ad,c⟩:=wI c
 refine yK [2,3,22,23,24,25,26,27,28,29,30,31,32] (fun (g:Unit)=>[]) (fun g wl=>Hd O w wl S []∧ac ()=some r) ?_ ?_
 ·skip
  refine zB fun bc ae=>zA<| zH (sb d) ?_
  obtain ⟨af,ag,c⟩:=zD c
  refine zG (yJ (kP (s1:=d) u9 rfl) (congrArg (Value.int .i64) ag))<| zH (i6 0)<| RN ae<| yD ?_
  unfold Fdg at c
  obtain ⟨ah,t,ai,c⟩:=yT c
  refine xB [2,3,24,25,26,27,28,29,30,31,32] (fun (g:Nat×Int)=>[(24,i6 g.2)]) (fun g wl=>Hd O w wl S []∧fV ah g.1 g.2=some r) (fun g=>g.1) (t,0) (zJ rfl zK) ⟨H.pick [],c⟩ ?_
  clear H c
  rintro ⟨t,f⟩ ρ bd ⟨H,c⟩
  obtain ⟨aj,rfl,c⟩:=yZ c
  have c:=yY ai c
  refine zB fun be ak=>zA ?_
  obtain ⟨al,am,c⟩:=zD c
  refine zG (zL (xP (a:=f) (b:=af) rfl rfl) am)<| RN ak<| zB fun bf an=>zY (b:=al) rfl (fun l=>?_) (fun l=>?_)
  ·have c:=zO l c
   refine zX (zF (an _ _ ?_))
   refine zB fun bg ao=>?_
   refine yD ?_
   refine zB fun bh ap=>zA<| zH (i6 f)<| zI (i6 f)<| RN ap<| zB fun bi aq=>zA<| zH (sb d)<| zH (i6 f) ?_
   obtain ⟨ar,au,c⟩:=zC c
   refine zG (aAn (s1:=d) (q:=f) u9 rfl rfl au) ?_
   have av:=H
   obtain ⟨aw,ax,c⟩:=zC c
   refine zZ rfl rfl (zS en145 rfl) (Fbkw ar _ ax _ _ _ (H.enter [] [])) ?_
   rintro _ bj ⟨rfl,ay⟩
   have H:=av.step (ay.only:Only [] _ _)
   refine ⟨_,rfl,?_⟩
   obtain ⟨az,a0,c⟩:=zD c
   refine zG (zL (wH (p:=aw) rfl) a0)<| RN aq<| zY (b:=az) rfl (fun m=>?_) (fun m=>?_)
   ·have c:=zO m c
    refine zB fun bk a1=>zA<| zI (.bool false)<| RN a1 ?_
    obtain rfl:=gI c
    refine (zW (yE (zV (zV (yE (zV (fC (v1:= .bool false) rfl rfl ?_)))))))
    exact ⟨rfl,H.pick []⟩
   have c:=zQ m c
   refine (zX (yH (zF (ao _ _ ?_))))
   refine zA ?_
   obtain ⟨u,a2,c⟩:=zD c
   refine zG (xM (a:=f) (b:=1) rfl rfl a2)<| zH (i6 u) ?_
   exact (yA (zF (meet ⟨(aj,u),(zJ rfl zK),⟨H.pick [],c⟩,Nat.lt_succ_self _⟩)))
  have c:=zQ l c
  exact (xI (yI (yI (yV (zF (meet ⟨(),zK,⟨H.pick [],c⟩⟩))))))
 rintro _ ρ bl ⟨H,c⟩
 have c:=dF ad c
 refine zB fun bm a3=>zA<| zI (.bool true)<| RN a3 ?_
 obtain rfl:=gI c
 refine (zW (fC (v1:= .bool true) rfl rfl ?_))
 exact ⟨rfl,H.pick []⟩
theorem Faew (h:List Str)(f:Str)(v1:Value)(r:Int)(c:Fae h f=some r)(O S:List Nat)(w:World)(H:Hd O w w S [f1 Rp.str v1 h]):
  Cl 136 [v1,sb f] w fun e p=>e= .returned (i6 r)∧Hd O w p S []:=by
 unfold Fae at c
 refine CW 19 Tryz.func136 ?_
 refine zB fun K3 q=>zA<| zI (i6 0)<| RN q ?_
 obtain ⟨s,t,c⟩:=wI c
 refine yK [4,5,6,7,8,9,10,11,12,13,14,15,16,17,18] (fun (g:Unit)=>[]) (fun g wl=>Hd O w wl S []∧s ()=some r) ?_ ?_
 ·skip
  refine zB fun ab u=>zA<| zH v1 ?_
  obtain ⟨v,x,c⟩:=zD c
  obtain ⟨ac,ad,y⟩:=SlF.len ((H.item (i:=0) rfl))
  refine zG (yJ (xO u22 y) (congrArg (Value.int .i64) x))<| zH (i6 0)<| RN u<| yD ?_
  unfold Fc3 at c
  obtain ⟨z,m,A,c⟩:=yT c
  refine xB [4,5,8,9,10,11,12,13,14,15,16,17,18] (fun (g:Nat×Int)=>[(8,i6 g.2)]) (fun g wl=>Hd O w wl S [f1 Rp.str v1 h]∧fV z g.1 g.2=some r) (fun g=>g.1) (m,0) (zJ rfl zK) ⟨H.pick [0],c⟩ ?_
  clear H c
  rintro ⟨m,d⟩ ρ ae ⟨H,c⟩
  obtain ⟨B,rfl,c⟩:=yZ c
  have c:=yY A c
  refine zB fun af C=>zA ?_
  obtain ⟨D,E,c⟩:=zD c
  refine zG (zL (xP (a:=d) (b:=v) rfl rfl) E)<| RN C<| zB fun ag F=>zY (b:=D) rfl (fun j=>?_) (fun j=>?_)
  ·have c:=zO j c
   refine zX (zF (F _ _ ?_))
   refine zB fun ah G=>?_
   refine yD ?_
   refine zB fun ai I=>zA<| zH (i6 d)<| zI (i6 d)<| RN I<| zB fun aj J=>zA<| zH (sb f)<| zH v1<| zH (i6 d) ?_
   obtain ⟨n,k,c⟩:=zC c
   obtain ⟨K,L,ak,M,N,P,Q,R,T⟩:=dI (H.item (i:=0) rfl) k
   obtain rfl:M= [sb n]:=P
   have H:=H.fz (.at K (L+d.toNat * 1) _) ⟨Q,R,T⟩
   refine zG (xC u22 sz9 N rfl (yC k).1 (yC k).2.1 rfl rfl)<| zG (xG bF rfl (Cells.get (H.item (i:=1) rfl).2.2 (i:=0) rfl)) ?_
   obtain ⟨U,V,c⟩:=zD c
   refine zG (zL (wB (s1:=f) (s2:=n) rfl rfl) V)<| RN J<| zY (b:=U) rfl (fun l=>?_) (fun l=>?_)
   ·have c:=zO l c
    refine zB fun al X=>zA<| zH (i6 d)<| zI (i6 d)<| RN X ?_
    obtain rfl:=gI c
    refine (zW (yE (zV (zV (yE (zV (fC (v1:=i6 d) rfl rfl ?_)))))))
    exact ⟨rfl,H.pick []⟩
   have c:=zQ l c
   refine (zX (yH (zF (G _ _ ?_))))
   refine zA ?_
   obtain ⟨o,Y,c⟩:=zD c
   refine zG (xM (a:=d) (b:=1) rfl rfl Y)<| zH (i6 o) ?_
   exact (yA (zF (meet ⟨(B,o),(zJ rfl zK),⟨H.pick [0],c⟩,Nat.lt_succ_self _⟩)))
  have c:=zQ j c
  exact (xI (yI (yI (yV (zF (meet ⟨(),zK,⟨H.pick [],c⟩⟩))))))
 rintro _ ρ am ⟨H,c⟩
 have c:=dF t c
 refine zB fun an Z=>zA<| zI (i6 (-1))<| RN Z ?_
 obtain rfl:=gI c
 refine (zW (fC (v1:=i6 (-1)) rfl rfl ?_))
 exact ⟨rfl,H.pick []⟩
theorem Fapw (f:List Str)(d:Str)(v1:Value)(r:Bool)(c:Fap f d=some r)(O S:List Nat)(w:World)(H:Hd O w w S [f1 Rp.str v1 f]):
  Cl 87 [v1,sb d] w fun e i=>e= .returned (.bool r)∧Hd O w i S []:=by
 unfold Fap at c
 refine CW 9 Tryz.func87 ?_
 refine zB fun q j=>zA<| zI (.bool false)<| RN j<| zB fun s k=>zA<| zH v1<| zH (sb d) ?_
 have l:=H
 obtain ⟨m,n,c⟩:=zC c
 refine zZ rfl rfl (zS aMx rfl) (Faew f d v1 _ n _ _ _ (H.enter [] [0])) ?_
 rintro _ t ⟨rfl,o⟩
 have H:=l.step (o.only:Only [] _ _)
 refine ⟨_,rfl,?_⟩
 obtain ⟨h,p,c⟩:=zD c
 refine zG (zL (kZ (a:=m) (b:=0) rfl rfl) p)<| zI (.bool h)<| RN k ?_
 obtain rfl:=gI c
 refine (zW (fC (v1:= .bool h) rfl rfl ?_))
 exact ⟨rfl,H.pick []⟩
abbrev Fev (f:Cond→Int→Int→Option (Bool×Int)):Prop:= ∀(p0:Cond) (p1:Int) (p2:Int) (v1:Value) (b3:Nat) (r:Bool×Int) (_:f p0 p1 p2=some r) (O S:List Nat) (w:World) (_:Hd O w w S [.blk b3 [i6 p2] 3,f1 fA v1 p0.Kids]),
  Cl 80 [.agg [i6 p0.Kind,sb p0.Name,sb p0.Other,i6 p0.Op,i6 p0.N,i6 p0.Frames,v1].toArray,i6 p1,gV b3] w fun e w'=>e= .returned (.bool r.1)∧Hd O w w' S [.blk b3 [i6 r.2] 3]
set_option maxRecDepth 100000 in
theorem Fcaw (rfC:Cond→Int→Int→Option (Bool×Int))(rhC:Fev rfC)(f:Cond)(k:Int)(n:Int)(v1:Value)(h:Nat)(r:Bool×Int)(c:Fca rfC f k n=some r)(O S:List Nat)(w:World)(H:Hd O w w S [.blk h [i6 n] 3,f1 fA v1 f.Kids]):
  Cl 80 [.agg [i6 f.Kind,sb f.Name,sb f.Other,i6 f.Op,i6 f.N,i6 f.Frames,v1].toArray,i6 k,gV h] w fun e E=>e= .returned (.bool r.1)∧Hd O w E S [.blk h [i6 r.2] 3]:=by
 unfold Fca at c
 refine CW 36 Tryz.func80 ?_
 refine zB fun K5 F=>zA<| yQ rfl rfl (xR (cs:=[i6 f.Kind,sb f.Name,sb f.Other,i6 f.Op,i6 f.N,i6 f.Frames,v1]) rfl H) ?_
 rintro _ w8 ⟨G,rfl,H⟩
 refine zI (.bool false)<| RN F<| zB fun K9 I=>zA<| zH (gV h)<| zG (zN rfl)<| Ld fM H 0 0 rfl rfl ?_
 obtain ⟨l,J,c⟩:=zD c
 refine zG (xM (a:=n) (b:=1) rfl rfl J)<| zG (zN rfl)<| yP rfl (xE H 0 rfl sz3 rfl (v:=i6 l) rfl rfl rfl) ?_
 rintro a8 H
 refine RN I<| zB fun a9 K=>?_
 obtain ⟨x,c,L⟩:=zC c
 refine yK [14,15,16,17,18,19,20,21] (fun (g:Unit)=>[(21,.bool x)]) (fun g wl=>Hd O w wl S [.blk h [i6 l] 3,f1 fA v1 f.Kids,.blk G [i6 f.Kind,sb f.Name,sb f.Other,i6 f.Op,i6 f.N,i6 f.Frames,v1] 70]) ?_ ?_
 ·skip
  refine zA ?_
  refine zH (i6 k) ?_
  obtain ⟨M,P,c⟩:=zD c
  refine zG (zL (yR (a:=k) (b:=0) rfl rfl) P)<| yS (b:=M) rfl rfl rfl (fun o=>?_) (fun o=>?_)
  ·have c:=zO o c
   refine yG ?_
   refine yG ?_
   refine yG ?_
   refine yG ?_
   refine zG (yO (v:= .bool true) rfl rfl) ?_
   obtain rfl:=gI c
   exact (yA (zF (meet ⟨(),(zJ rfl zK),H.pick [0,1,2]⟩)))
  have c:=zQ o c
  refine zH (gV h)<| zG (zN rfl)<| Ld fM H 0 0 rfl rfl ?_
  obtain ⟨Q,R,c⟩:=zD c
  refine zG (zL (aI (a:=l) (b:=200) rfl rfl) R)<| zG (yM (v:= .bool Q) rfl rfl) ?_
  obtain rfl:=gI c
  exact (yA (zF (meet ⟨(),(zJ rfl zK),H.pick [0,1,2]⟩)))
 rintro _ ρ ba H
 have c:=L
 refine zY (b:=x) rfl (fun q=>?_) (fun q=>?_)
 ·have c:=zO q c
  refine zB fun bb T=>zA<| zI (.bool false)<| RN T ?_
  obtain rfl:=gI c
  refine (zW (zV (fC (v1:= .bool false) rfl rfl ?_)))
  exact ⟨rfl,H.pick [0]⟩
 have c:=zQ q c
 refine zX (zF (K _ _ ?_))
 obtain ⟨U,V,c⟩:=wI c
 refine yK [6,8,22,23,24,25,26,27,28,29,30,31,32,33,34,35] (fun (g:Int)=>[]) (fun g wl=>Hd O w wl S [.blk h [i6 g] 3]∧U g=some r) ?_ ?_
 ·skip
  refine zB fun bc X=>zA<| zG (jJ rfl)<| Ld tJ H 2 6 rfl rfl ?_
  obtain ⟨Y,Z,c⟩:=zD c
  obtain ⟨bd,be,aa⟩:=SlF.len ((H.item (i:=1) rfl))
  refine zG (yJ (xO u68 aa) (congrArg (Value.int .i64) Z))<| zH (i6 0)<| RN X<| yD ?_
  unfold Ffp at c
  obtain ⟨ab,y,ac,c⟩:=yT c
  refine xB [6,8,25,26,27,28,29,30,31,32,33,34,35] (fun (g:Nat×Int×Int)=>[(25,i6 g.2.1)]) (fun g wl=>Hd O w wl S [.blk h [i6 g.2.2] 3,f1 fA v1 f.Kids]∧fV ab g.1 (g.2.1,g.2.2)=some r) (fun g=>g.1) (y,0,l) (zJ rfl zK) ⟨H.pick [0,1],c⟩ ?_
  clear H c
  rintro ⟨y,m,z⟩ ρ bf ⟨H,c⟩
  obtain ⟨ad,rfl,c⟩:=yZ c
  have c:=yY ac c
  refine zB fun bg ae=>zA ?_
  obtain ⟨af,ag,c⟩:=zD c
  refine zG (zL (xP (a:=m) (b:=Y) rfl rfl) ag)<| RN ae<| zB fun bh ah=>zY (b:=af) rfl (fun s=>?_) (fun s=>?_)
  ·have c:=zO s c
   refine zX (zF (ah _ _ ?_))
   refine zB fun bi ai=>?_
   refine yD ?_
   refine zB fun bj aj=>zA ?_
   obtain ⟨d,t,c⟩:=zC c
   obtain ⟨A,B,bk,bl,ak,al,am,an,ao⟩:=dI (H.item (i:=1) rfl) t
   obtain ⟨j,rfl,ap⟩:=cO al
   have H:=H.fzs [.at A (B+m.toNat * 7) _,.sl fA j d.Kids] ⟨⟨am,an,ao⟩,ap,trivial⟩
   refine zG (xC u68 fZ ak rfl (yC t).1 (yC t).2.1 rfl rfl)<| zG (yJ (yF (cs:=[i6 d.Kind,sb d.Name,sb d.Other,i6 d.Op,i6 d.N,i6 d.Frames,j]) eG rfl fZ rfl (H.item (i:=2) rfl).2.2) rfl)<| yQ rfl rfl (xA aB H) ?_
   rintro _ bm ⟨aq,rfl,H⟩
   refine yP rfl (yL (vs:=[i6 d.Kind,sb d.Name,sb d.Other,i6 d.Op,i6 d.N,i6 d.Frames,j]) H 4 rfl fZ rfl rfl rfl ⟨rfl,rfl,rfl,rfl,rfl,rfl,(xY (H.item (i:=3) rfl)),trivial⟩ rfl) ?_
   rintro bn H
   refine RN aj<| zB fun bo ar=>zA<| zG (yJ (yF (cs:=[i6 d.Kind,sb d.Name,sb d.Other,i6 d.Op,i6 d.N,i6 d.Frames,j]) eG rfl fZ rfl (Hbc H 4 rfl)) rfl)<| zH (i6 k) ?_
   obtain ⟨au,av,c⟩:=zD c
   refine zG (jO (a:=k) (b:=1) rfl rfl av)<| zH (gV h) ?_
   obtain ⟨⟨aw,C⟩,ax,c⟩:=zC c
   refine zZ rfl rfl (zS en80 rfl) (rhC d au z j h _ ax _ _ _ (H.enter [0] [3])) ?_
   rintro _ ay ⟨rfl,az⟩
   have H:Hd _ _ ay _ [f1 fA v1 f.Kids,.fz (.at A (B+m.toNat * 7) [i6 d.Kind,sb d.Name,sb d.Other,i6 d.Op,i6 d.N,i6 d.Frames,j]),f1 fA j d.Kids,.blk aq [i6 d.Kind,sb d.Name,sb d.Other,i6 d.Op,i6 d.N,i6 d.Frames,j] 70,.blk h [i6 C] 3]:=H.back [0] [3] rfl az
   refine ⟨_,rfl,?_⟩
   obtain ⟨a0,a1,c⟩:=zD c
   refine zG (zL (wH (p:=aw) rfl) a1)<| RN ar<| zY (b:=a0) rfl (fun u=>?_) (fun u=>?_)
   ·have c:=zO u c
    refine zB fun bp a2=>zA<| zI (.bool false)<| RN a2 ?_
    obtain rfl:=gI c
    refine (zW (yE (zV (zV (yE (zV (fC (v1:= .bool false) rfl rfl ?_)))))))
    exact ⟨rfl,H.pick [4]⟩
   have c:=zQ u c
   refine (zX (yH (zF (ai _ _ ?_))))
   refine zA ?_
   obtain ⟨D,a3,c⟩:=zD c
   refine zG (xM (a:=m) (b:=1) rfl rfl a3)<| zH (i6 D) ?_
   exact (yA (zF (meet ⟨(ad,D,C),(zJ rfl zK),⟨H.pick [4,0],c⟩,Nat.lt_succ_self _⟩)))
  have c:=zQ s c
  exact (xI (yI (yI (yV (zF (meet ⟨z,zK,⟨H.pick [0],c⟩⟩))))))
 rintro bq ρ br ⟨H,c⟩
 have c:=dF V c
 refine zB fun bt a4=>zA<| zI (.bool true)<| RN a4 ?_
 obtain rfl:=gI c
 refine (zW (fC (v1:= .bool true) rfl rfl ?_))
 exact ⟨rfl,H.pick [0]⟩
theorem Fgl:Fev (Fde):=by
 have h: ∀n,Fev (Faj n):=by
  intro n
  induction n with
  | zero=>intro b c d e f r a; cases a
  | succ n ih=>intro b c d e f r a; exact Fcaw (Faj n) ih b c d e f r a
 exact h FU
end Go.Proofs.YtckmiljbaejijaaGreatDoor.L
