/- Walks: what each function computes, for every argument; no condition but those that stand in the statements. -/
import Derived.Test.YthllgjnlmjpinaaGreatDoorRows
import Derived.Test.YthllgjnlmjpinaaGreatDoorUP
import Derived.Test.YthllgjnlmjpinaaGreatDoorXVf
import Derived.Test.YthllgjnlmjpinaaGreatDoorLfS
namespace Go.Proofs.YthllgjnlmjpinaaGreatDoor.L
open Go.RowKit Go.OB Go.Lf
set_option maxHeartbeats 4000000
abbrev En (f:FuncId):Prop:=Go.OB.Enters Tryz.prog f
theorem RN {P:Program}{N:Nat}{ops:Array Oper}{y:Code}{K:Env→World→Prop}{Q Q':Exit→Env→World→Prop}{ρ:Env}{w:World}(h: ∀ρ w,WP P N y Q ρ w→K ρ w)(n:WP P N y Q ρ w):RL P N ops (rP K Q') [] ρ w:=zT (zF (h _ _ n))
theorem CW {P:Program}{f:FuncId}{fn:Func}{c:Code}{args:List Value}{w:World}{R:Ending→World→Prop}(N:Nat)(hf:P.funcs[f]? =some fn)(h:WP P N c (aCk P fn.results R) (aLw args) w)(hb:fn.body=some c:=by exact rfl)(hN:fn.ntmps=N:=by exact rfl)(hl:Nat.ble args.length N=true:=by exact rfl):Calls P f args.toArray w R:=kY N hf hb hN hl h
abbrev Cl (f:Nat)(a:List Value)(w:World)(R:Ending→World→Prop):Prop:=Calls Tryz.prog f a.toArray w R
abbrev i6 (n:Int):Value:= .int .i64 n
abbrev sb (s:Str):Value:= .string (bs s)
abbrev f1 {α:Type}(r:Rp α)(v:Value)(l:List α):Th:= .fz (.sl r v l)
theorem Hbc {O S:List Nat}{a w:World}{l:List Th}{b:Nat}{T:TypeId}{cs:List Value}(H:Hd O a w S l)(i:Nat)(h:l[i]? =some (.blk b cs T)):Cells w ⟨b,0,none⟩ cs:=Blk.cells (H.item h)
theorem Hbg {O S:List Nat}{a w:World}{l:List Th}{b:Nat}{T:TypeId}{cs:List Value}{v:Value}(H:Hd O a w S l)(i j:Nat)(h:l[i]? =some (.blk b cs T))(c:cs[j]? =some v):w.cell? ⟨b,0+j,none⟩=some v:=Cells.get (Blk.cells (H.item h)) c
theorem XP {P:Program}{I:World→Prop}{N:Nat}{ops:Array Oper}{κ:List MxM.Kd}{K:MxM.Mm→Env→World→Prop}{k:Nat}{M:MxM.Mm}{σ:List Nat}{rest:List Oper}{ρ:Env}{w:World}{d:Nat}{ty:TypeId}{pos:String}{af:Array Edge}{g:Option (Nat×Bool)}{v:Value}{op:Op}(h: ∀a,I a→Do P ⟨some d,op,ty,pos,af,g⟩ ρ a v a)(n:MxM.XL P I N ops κ K M σ rest (upd ρ d v) w)(hk:MxM.kdOf κ k= .pure:=by exact rfl)(hw:eU N ops ρ ⟨some d,op,ty,pos,af,g⟩=true:=by exact rfl)(hd:Nat.blt d N=true:=by exact rfl):MxM.XL P I N ops κ K M (k :: σ) (⟨some d,op,ty,pos,af,g⟩ :: rest) ρ w:=MxM.XL_pure hk hw hd h n
theorem XO {P:Program}{I:World→Prop}{N:Nat}{ops:Array Oper}{κ:List MxM.Kd}{K:MxM.Mm→Env→World→Prop}{k:Nat}{M:MxM.Mm}{σ:List Nat}{rest:List Oper}{ρ:Env}{w:World}{d:Nat}{ty:TypeId}{pos:String}{af:Array Edge}{g:Option (Nat×Bool)}{op:Op}(n:MxM.XL P I N ops κ K M σ rest (upd ρ d undef) w)(hk:MxM.kdOf κ k= .pure:=by exact rfl)(hw:eU N ops ρ ⟨some d,op,ty,pos,af,g⟩=false:=by exact rfl)(hd:Nat.blt d N=true:=by exact rfl):MxM.XL P I N ops κ K M (k :: σ) (⟨some d,op,ty,pos,af,g⟩ :: rest) ρ w:=MxM.XL_offp hk hw hd n
theorem XM {P:Program}{I:World→Prop}{N:Nat}{ops:Array Oper}{κ:List MxM.Kd}{K:MxM.Mm→Env→World→Prop}{k:Nat}{M:MxM.Mm}{σ:List Nat}{rest:List Oper}{ρ:Env}{w:World}{d:Nat}{ty:TypeId}{pos:String}{af:Array Edge}{g:Option (Nat×Bool)}{x:Operand}(v:Value)(n:MxM.XL P I N ops κ K M σ rest (upd ρ d v) w)(hx:ev ρ x=v:=by exact rfl)(hk:MxM.kdOf κ k= .pure:=by exact rfl)(hw:eU N ops ρ ⟨some d,.move x,ty,pos,af,g⟩=true:=by exact rfl)(hd:Nat.blt d N=true:=by exact rfl):MxM.XL P I N ops κ K M (k :: σ) (⟨some d,.move x,ty,pos,af,g⟩ :: rest) ρ w:=MxM.XL_pure hk hw hd (fun _ _=>dM hx) n
theorem XR {P:Program}{c:World}{e:List Nat}{N:Nat}{ops:Array Oper}{κ:List MxM.Kd}{K:MxM.Mm→Env→World→Prop}{k:Nat}{M:MxM.Mm}{σ:List Nat}{rest:List Oper}{ρ:Env}{w:World}{d:Nat}{ty:TypeId}{pos:String}{af:Array Edge}{g:Option (Nat×Bool)}{t:TypeId}{x:Operand}{O S:List Nat}{f:World}{l:List Th}{b:Nat}{T:TypeId}{cs:List Value}{v:Value}(o:dS P t)(H:Hd O f w S l)(i j:Nat)(h:l[i]? =some (.blk b cs T))(m:cs[j]? =some v)(n:MxM.XL P (fun a=>Only e c a) N ops κ K M σ rest (upd ρ d v) w)(hx:ev ρ x= .pointer (some ⟨b,0+j,none⟩):=by exact rfl)(hk:MxM.kdOf κ k= .read:=by exact rfl)(hw:eU N ops ρ ⟨some d,.load t x,ty,pos,af,g⟩=true:=by exact rfl)(hd:Nat.blt d N=true:=by exact rfl):MxM.XL P (fun a=>Only e c a) N ops κ K M (k :: σ) (⟨some d,.load t x,ty,pos,af,g⟩ :: rest) ρ w:=MxM.XL_read oS hk hw hd (fun _ p=>xG o hx (Hbg (H.sees p) i j h m)) n
theorem Ld {P:Program}{N:Nat}{ops:Array Oper}{Q:Exit→Env→World→Prop}{rest:List Oper}{ρ:Env}{w:World}{d:Nat}{t ty:TypeId}{x:Operand}{pos:String}{af:Array Edge}{g:Option (Nat×Bool)}{O S:List Nat}{a:World}{l:List Th}{b:Nat}{T:TypeId}{cs:List Value}{v:Value}(o:dS P t)(H:Hd O a w S l)(i j:Nat)(h:l[i]? =some (.blk b cs T))(c:cs[j]? =some v)(k:RL P N ops Q rest (upd ρ d v) w)(hx:ev ρ x= .pointer (some ⟨b,0+j,none⟩):=by exact rfl)(hw:eU N ops ρ ⟨some d,.load t x,ty,pos,af,g⟩=true:=by exact rfl)(hd:Nat.blt d N=true:=by exact rfl):RL P N ops Q (⟨some d,.load t x,ty,pos,af,g⟩ :: rest) ρ w:=zG (xG o hx (Hbg H i j h c)) k hw hd
theorem fQ {f:FuncId}{fn:Func}(h:Tryz.prog.funcs[f]? =some fn)(a:fn.body.isSome=true:=by exact rfl)(b:(fn.name== "runtime.NumGoroutine")=false:=by kernel_rfl):Go.OB.Enters Tryz.prog f:=⟨_,h,a,b⟩
theorem u2:Tryz.prog.underlying 2=some (.int .i64):=Tryz.underlying2
theorem u3:Tryz.prog.underlying 3=some (.int .i64):=Tryz.underlying3
theorem u4:Tryz.prog.underlying 4=some .bool:=Tryz.underlying4
theorem u5:Tryz.prog.underlying 5=some (.int .u8):=Tryz.underlying5
theorem u9:Tryz.prog.underlying 9=some .string:=Tryz.underlying9
theorem u22:Tryz.prog.underlying 22=some (.slice 47):=Tryz.underlying22
theorem u23:Tryz.prog.underlying 23=some (.slice 9):=Tryz.underlying23
theorem u24:Tryz.prog.underlying 24=some (.slice 117):=Tryz.underlying24
theorem u25:Tryz.prog.underlying 25=some (.slice 112):=Tryz.underlying25
theorem u28:Tryz.prog.underlying 28=some (.slice 86):=Tryz.underlying28
theorem u31:Tryz.prog.underlying 31=some (.slice 38):=Tryz.underlying31
theorem u36:Tryz.prog.underlying 36=some (.slice 3):=Tryz.underlying36
theorem u45:Tryz.prog.underlying 45=some (.slice 92):=Tryz.underlying45
theorem u50:Tryz.prog.underlying 50=some (.slice 5):=Tryz.underlying50
theorem u71:Tryz.prog.underlying 71=some (.map 9 3):=Tryz.underlying71
theorem u88:Tryz.prog.underlying 88=some (.slice 94):=Tryz.underlying88
theorem aBf:Tryz.prog.underlying 108=some (.slice 110):=Tryz.underlying108
theorem qK:Tryz.prog.underlying 125=some (.slice 4):=Tryz.underlying125
theorem u134:Tryz.prog.underlying 134=some (.int .u64):=Tryz.underlying134
theorem u142:Tryz.prog.underlying 142=some (.pointer 92):=Tryz.underlying142
theorem u147:Tryz.prog.underlying 147=some (.int .u64):=Tryz.underlying147
theorem aBm:Tryz.prog.underlying 160=some (.slice 224):=Tryz.underlying160
theorem aOq:Tryz.prog.underlying 179=some (.slice 215):=Tryz.underlying179
theorem uN:Tryz.prog.underlying 180=some (.slice 212):=Tryz.underlying180
theorem aMc:Tryz.prog.underlying 258=some (.array 3 3):=Tryz.underlying258
theorem sz3:Sz Tryz.prog 3 1:=by unfold Sz; kernel_rfl
theorem sz4:Sz Tryz.prog 4 1:=by unfold Sz; kernel_rfl
theorem sz9:Sz Tryz.prog 9 1:=by unfold Sz; kernel_rfl
theorem sz23:Sz Tryz.prog 23 1:=by unfold Sz; kernel_rfl
theorem aBj:Sz Tryz.prog 27 3:=by unfold Sz; kernel_rfl
theorem sz30:Sz Tryz.prog 30 5:=by unfold Sz; kernel_rfl
theorem sz36:Sz Tryz.prog 36 1:=by unfold Sz; kernel_rfl
theorem kE:Sz Tryz.prog 38 4:=by unfold Sz; kernel_rfl
theorem sz45:Sz Tryz.prog 45 1:=by unfold Sz; kernel_rfl
theorem tC:Sz Tryz.prog 47 6:=by unfold Sz; kernel_rfl
theorem sz50:Sz Tryz.prog 50 1:=by unfold Sz; kernel_rfl
theorem sz83:Sz Tryz.prog 83 1:=by unfold Sz; kernel_rfl
theorem aIo:Sz Tryz.prog 86 2:=by unfold Sz; kernel_rfl
theorem sz88:Sz Tryz.prog 88 1:=by unfold Sz; kernel_rfl
theorem sz90:Sz Tryz.prog 90 2:=by unfold Sz; kernel_rfl
theorem qR:Sz Tryz.prog 92 4:=by unfold Sz; kernel_rfl
theorem mZ:Sz Tryz.prog 94 3:=by unfold Sz; kernel_rfl
theorem dI:Sz Tryz.prog 110 7:=by unfold Sz; kernel_rfl
theorem rX:Sz Tryz.prog 112 8:=by unfold Sz; kernel_rfl
theorem uZ:Sz Tryz.prog 117 9:=by unfold Sz; kernel_rfl
theorem sz125:Sz Tryz.prog 125 1:=by unfold Sz; kernel_rfl
theorem sz160:Sz Tryz.prog 160 1:=by unfold Sz; kernel_rfl
theorem sz179:Sz Tryz.prog 179 1:=by unfold Sz; kernel_rfl
theorem sz180:Sz Tryz.prog 180 1:=by unfold Sz; kernel_rfl
theorem aZ:Sz Tryz.prog 199 7:=by unfold Sz; kernel_rfl
theorem vY:Sz Tryz.prog 212 1:=by unfold Sz; kernel_rfl
theorem aGu:Sz Tryz.prog 215 3:=by unfold Sz; kernel_rfl
theorem nO:Sz Tryz.prog 224 2:=by unfold Sz; kernel_rfl
theorem sz258:Sz Tryz.prog 258 3:=by unfold Sz; kernel_rfl
theorem fG:dS Tryz.prog 3:=by unfold dS; kernel_rfl
theorem jT:dS Tryz.prog 4:=by unfold dS; kernel_rfl
theorem dX:dS Tryz.prog 9:=by unfold dS; kernel_rfl
theorem jJ:dS Tryz.prog 23:=by unfold dS; kernel_rfl
theorem aRq:dS Tryz.prog 24:=by unfold dS; kernel_rfl
theorem wO:dS Tryz.prog 25:=by unfold dS; kernel_rfl
theorem aPv:dS Tryz.prog 28:=by unfold dS; kernel_rfl
theorem aF:dS Tryz.prog 36:=by unfold dS; kernel_rfl
theorem aGl:dS Tryz.prog 45:=by unfold dS; kernel_rfl
theorem aKw:dS Tryz.prog 50:=by unfold dS; kernel_rfl
theorem aEq:dS Tryz.prog 71:=by unfold dS; kernel_rfl
theorem one83:dS Tryz.prog 83:=by unfold dS; kernel_rfl
theorem uX:dS Tryz.prog 88:=by unfold dS; kernel_rfl
theorem vC:dS Tryz.prog 108:=by unfold dS; kernel_rfl
theorem sW:dS Tryz.prog 125:=by unfold dS; kernel_rfl
theorem aEo:dS Tryz.prog 160:=by unfold dS; kernel_rfl
theorem aPd:dS Tryz.prog 179:=by unfold dS; kernel_rfl
theorem aOz:dS Tryz.prog 180:=by unfold dS; kernel_rfl
theorem kS:dS Tryz.prog 212:=by unfold dS; kernel_rfl
theorem qM:Agg Tryz.prog 27:=by unfold Agg; kernel_rfl
theorem aPw:Agg Tryz.prog 30:=by unfold Agg; kernel_rfl
theorem uT:Agg Tryz.prog 38:=by unfold Agg; kernel_rfl
theorem sF:Agg Tryz.prog 47:=by unfold Agg; kernel_rfl
theorem agg86:Agg Tryz.prog 86:=by unfold Agg; kernel_rfl
theorem aKa:Agg Tryz.prog 90:=by unfold Agg; kernel_rfl
theorem aFu:Agg Tryz.prog 92:=by unfold Agg; kernel_rfl
theorem aAl:Agg Tryz.prog 94:=by unfold Agg; kernel_rfl
theorem dQ:Agg Tryz.prog 110:=by unfold Agg; kernel_rfl
theorem aJg:Agg Tryz.prog 112:=by unfold Agg; kernel_rfl
theorem aIq:Agg Tryz.prog 117:=by unfold Agg; kernel_rfl
theorem nT:Agg Tryz.prog 199:=by unfold Agg; kernel_rfl
theorem agg215:Agg Tryz.prog 215:=by unfold Agg; kernel_rfl
theorem aFm:Agg Tryz.prog 224:=by unfold Agg; kernel_rfl
theorem agg258:Agg Tryz.prog 258:=by unfold Agg; kernel_rfl
theorem zero3:Go.OB.Zero Tryz.prog 3 ([i6 0]):=by unfold Go.OB.Zero; kernel_rfl
theorem zero23:Go.OB.Zero Tryz.prog 23 ([.slice none 0 0]):=by unfold Go.OB.Zero; kernel_rfl
theorem zero36:Go.OB.Zero Tryz.prog 36 ([.slice none 0 0]):=by unfold Go.OB.Zero; kernel_rfl
theorem vM:Go.OB.Zero Tryz.prog 38 ([.string (bs []),.bool false,i6 0,.slice none 0 0]):=by unfold Go.OB.Zero; kernel_rfl
theorem aOp:Go.OB.Zero Tryz.prog 47 ([.string (bs []),.string (bs []),i6 0,i6 0,i6 0,.slice none 0 0]):=by unfold Go.OB.Zero; kernel_rfl
theorem zero83:Go.OB.Zero Tryz.prog 83 ([.nilFunc]):=by unfold Go.OB.Zero; kernel_rfl
theorem zero86:Go.OB.Zero Tryz.prog 86 ([.string (bs []),i6 0]):=by unfold Go.OB.Zero; kernel_rfl
theorem aHu:Go.OB.Zero Tryz.prog 92 ([.string (bs []),i6 0,.slice none 0 0,i6 0]):=by unfold Go.OB.Zero; kernel_rfl
theorem aFw:Go.OB.Zero Tryz.prog 94 ([i6 0,i6 0,i6 0]):=by unfold Go.OB.Zero; kernel_rfl
theorem tV:Go.OB.Zero Tryz.prog 110 ([i6 0,.string (bs []),.string (bs []),i6 0,i6 0,i6 0,.slice none 0 0]):=by unfold Go.OB.Zero; kernel_rfl
theorem aIb:Go.OB.Zero Tryz.prog 112 ([.string (bs []),i6 0,.string (bs []),.string (bs []),i6 0,i6 0,i6 0,.slice none 0 0]):=by unfold Go.OB.Zero; kernel_rfl
theorem aJj:Go.OB.Zero Tryz.prog 117 ([.string (bs []),.string (bs []),i6 0,.string (bs []),.string (bs []),i6 0,i6 0,i6 0,.slice none 0 0]):=by unfold Go.OB.Zero; kernel_rfl
theorem zero125:Go.OB.Zero Tryz.prog 125 ([.slice none 0 0]):=by unfold Go.OB.Zero; kernel_rfl
theorem aPt:Go.OB.Zero Tryz.prog 199 ([.bool false,.bool false,.bool false,.bool false,.bool false,i6 0,i6 0]):=by unfold Go.OB.Zero; kernel_rfl
theorem aQx:Go.OB.Zero Tryz.prog 215 ([i6 0,i6 0,.nilIface]):=by unfold Go.OB.Zero; kernel_rfl
theorem aAs:Go.OB.Zero Tryz.prog 224 ([i6 0,.bool false]):=by unfold Go.OB.Zero; kernel_rfl
theorem zero258:Go.OB.Zero Tryz.prog 258 ((Fl.arr 3 (Fl.int .i64)).f (Arr.rep 3 0:Arr 3 Int)):=by unfold Go.OB.Zero; kernel_rfl
theorem el3:El Tryz.prog 3 1 8 ([i6 0]):=⟨by kernel_rfl,by kernel_rfl,by kernel_rfl,by decide,by decide⟩
theorem el4:El Tryz.prog 4 1 1 ([.bool false]):=⟨by kernel_rfl,by kernel_rfl,by kernel_rfl,by decide,by decide⟩
theorem el5:El Tryz.prog 5 1 1 ([.int .u8 0]):=⟨by kernel_rfl,by kernel_rfl,by kernel_rfl,by decide,by decide⟩
theorem el9:El Tryz.prog 9 1 16 ([.string (bs [])]):=⟨by kernel_rfl,by kernel_rfl,by kernel_rfl,by decide,by decide⟩
theorem el38:El Tryz.prog 38 4 56 ([.string (bs []),.bool false,i6 0,.slice none 0 0]):=⟨by kernel_rfl,by kernel_rfl,by kernel_rfl,by decide,by decide⟩
theorem el92:El Tryz.prog 92 4 56 ([.string (bs []),i6 0,.slice none 0 0,i6 0]):=⟨by kernel_rfl,by kernel_rfl,by kernel_rfl,by decide,by decide⟩
theorem el94:El Tryz.prog 94 3 24 ([i6 0,i6 0,i6 0]):=⟨by kernel_rfl,by kernel_rfl,by kernel_rfl,by decide,by decide⟩
theorem aKi:El Tryz.prog 212 1 16 ([.nilIface]):=⟨by kernel_rfl,by kernel_rfl,by kernel_rfl,by decide,by decide⟩
theorem el215:El Tryz.prog 215 3 32 ([i6 0,i6 0,.nilIface]):=⟨by kernel_rfl,by kernel_rfl,by kernel_rfl,by decide,by decide⟩
theorem aMs:El Tryz.prog 224 2 16 ([i6 0,.bool false]):=⟨by kernel_rfl,by kernel_rfl,by kernel_rfl,by decide,by decide⟩
theorem z8_5:Z8 Tryz.prog 5:=by unfold Z8; kernel_rfl
theorem bz38:Tryz.prog.built 38 []=some ([.string (bs []),.bool false,i6 0,.slice none 0 0]).toArray:=by kernel_rfl
theorem bz52:Tryz.prog.built 52 []=some ([.slice none 0 0]).toArray:=by kernel_rfl
theorem bz94:Tryz.prog.built 94 []=some ([i6 0,i6 0,i6 0]).toArray:=by kernel_rfl
theorem bz199:Tryz.prog.built 199 []=some ([.bool false,.bool false,.bool false,.bool false,.bool false,i6 0,i6 0]).toArray:=by kernel_rfl
theorem aLd (a:Str)(b:Bool):Tryz.prog.built 38 [(0,sb a),(1,.bool b)]=some [sb a,.bool b,i6 0,.slice none 0 0].toArray:=by kernel_rfl
theorem aFb (a:Str)(b:Int)(c:Option Addr)(d e:Nat):Tryz.prog.built 38 [(0,sb a),(2,i6 b),(3,.slice c d e)]=some [sb a,.bool false,i6 b,.slice c d e].toArray:=by kernel_rfl
theorem bt38_0_3 (a:Str)(b:Option Addr)(c d:Nat):Tryz.prog.built 38 [(0,sb a),(3,.slice b c d)]=some [sb a,.bool false,i6 0,.slice b c d].toArray:=by kernel_rfl
theorem bt90_0 (a:Int):Tryz.prog.built 90 [(0,i6 a)]=some [i6 a,.slice none 0 0].toArray:=by kernel_rfl
theorem bt92_0_1 (a:Str)(b:Int)(c:Option Addr)(d e:Nat):Tryz.prog.built 92 [(0,sb a),(1,.agg [i6 b,.slice c d e].toArray)]=some [sb a,i6 b,.slice c d e,i6 0].toArray:=by kernel_rfl
theorem aKd (a:Option Addr)(b c:Nat)(d:Int)(e:Option Addr)(f h:Nat):Tryz.prog.built 182 [(0,.slice a b c),(1,i6 d),(4,.slice e f h)]=some [.slice a b c,i6 d,.slice none 0 0,.slice none 0 0,.slice e f h].toArray:=by kernel_rfl
theorem bt199_0 (a:Bool):Tryz.prog.built 199 [(0,.bool a)]=some [.bool a,.bool false,.bool false,.bool false,.bool false,i6 0,i6 0].toArray:=by kernel_rfl
theorem aMm (a:Bool)(b:Bool)(c:Bool):Tryz.prog.built 199 [(0,.bool a),(1,.bool b),(2,.bool c)]=some [.bool a,.bool b,.bool c,.bool false,.bool false,i6 0,i6 0].toArray:=by kernel_rfl
theorem aKt (a:Bool)(b:Bool)(c:Bool):Tryz.prog.built 199 [(0,.bool a),(2,.bool b),(3,.bool c)]=some [.bool a,.bool false,.bool b,.bool c,.bool false,i6 0,i6 0].toArray:=by kernel_rfl
theorem aLu (a:Bool)(b:Bool)(c:Bool):Tryz.prog.built 199 [(0,.bool a),(3,.bool b),(4,.bool c)]=some [.bool a,.bool false,.bool false,.bool b,.bool c,i6 0,i6 0].toArray:=by kernel_rfl
theorem aGc (a:Bool)(b:Bool)(c:Int)(d:Int):Tryz.prog.built 199 [(3,.bool a),(4,.bool b),(5,i6 c),(6,i6 d)]=some [.bool false,.bool false,.bool false,.bool a,.bool b,i6 c,i6 d].toArray:=by kernel_rfl
theorem aMn (a:Bool)(b:Int)(c:Int):Tryz.prog.built 199 [(4,.bool a),(5,i6 b),(6,i6 c)]=some [.bool false,.bool false,.bool false,.bool false,.bool a,i6 b,i6 c].toArray:=by kernel_rfl
theorem aBv (a:Int)(b:Int):Tryz.prog.built 199 [(5,i6 a),(6,i6 b)]=some [.bool false,.bool false,.bool false,.bool false,.bool false,i6 a,i6 b].toArray:=by kernel_rfl
theorem aKp (a:Option Nat)(b:Option Addr)(c d:Nat)(e:Option Nat):Tryz.prog.built 209 [(0,.map a),(2,.slice b c d),(3,.map e)]=some [.map a,.slice none 0 0,.slice b c d,.map e].toArray:=by kernel_rfl
theorem aNc (a:Int)(b:Int)(a2T:TypeId)(c:Value):Tryz.prog.built 215 [(0,i6 a),(1,i6 b),(2,.iface a2T c)]=some [i6 a,i6 b,.iface a2T c].toArray:=by kernel_rfl
theorem bt218_0 (a:Option Addr)(b c:Nat):Tryz.prog.built 218 [(0,.slice a b c)]=some [.slice a b c,.slice none 0 0,.slice none 0 0].toArray:=by kernel_rfl
theorem bt224_0_1 (a:Int)(b:Bool):Tryz.prog.built 224 [(0,i6 a),(1,.bool b)]=some [i6 a,.bool b].toArray:=by kernel_rfl
theorem aQz (a:Int):Tryz.prog.built 239 [(0,i6 a)]=some [i6 a].toArray:=by kernel_rfl
theorem aLy (a:Int)(b:Int)(c:Int):Tryz.prog.built 241 [(0,i6 a),(1,i6 b),(2,i6 c)]=some [i6 a,i6 b,i6 c].toArray:=by kernel_rfl
theorem aCp (a:Int)(b:Int)(c:Int)(d:Int)(e:Int):Tryz.prog.built 243 [(0,i6 a),(1,i6 b),(2,i6 c),(3,i6 d),(4,i6 e)]=some [i6 a,i6 b,i6 c,i6 d,i6 e].toArray:=by kernel_rfl
theorem aMi (a:Int)(b:Int)(c:Int):Tryz.prog.built 246 [(0,i6 a),(1,i6 b),(2,i6 c)]=some [i6 a,i6 b,i6 c,.slice none 0 0].toArray:=by kernel_rfl
theorem bt248_0 (a:Int):Tryz.prog.built 248 [(0,i6 a)]=some [i6 a].toArray:=by kernel_rfl
theorem bt250_0 (a:Int):Tryz.prog.built 250 [(0,i6 a)]=some [i6 a].toArray:=by kernel_rfl
theorem bt253_0 (a0T:TypeId)(a:Value):Tryz.prog.built 253 [(0,.iface a0T a)]=some [.iface a0T a].toArray:=by kernel_rfl
theorem bt256_0_1 (a:Option Addr)(b c:Nat)(d:Bool):Tryz.prog.built 256 [(0,.slice a b c),(1,.bool d)]=some [.slice a b c,.bool d].toArray:=by kernel_rfl
theorem tH (a0T:TypeId)(a:Value)(b:Int)(c:Int):Tryz.prog.built 260 [(0,.iface a0T a),(1,i6 b),(2,i6 c)]=some [.iface a0T a,i6 b,i6 c,.slice none 0 0,i6 0,i6 0,i6 0].toArray:=by kernel_rfl
theorem bt263_0_1 (a0T:TypeId)(a:Value)(a1T:TypeId)(b:Value):Tryz.prog.built 263 [(0,.iface a0T a),(1,.iface a1T b)]=some [.iface a0T a,.iface a1T b,i6 0,.bool false].toArray:=by kernel_rfl
theorem bt266_0 (a0T:TypeId)(a:Value):Tryz.prog.built 266 [(0,.iface a0T a)]=some [.iface a0T a,i6 0,.bool false].toArray:=by kernel_rfl
abbrev gX (b:Nat):Value:= .pointer (some ⟨b,0,none⟩)
def FAt (t i m:Nat):Prop:= ∀{ρ:Env} {w:World} {d:Option Tmp} {x:Operand} {ty:TypeId} {pos:String} {af:Array Edge} {g:Option (Nat×Bool)} {b o:Nat} (_:ev ρ x= .pointer (some ⟨b,o,none⟩)),Do Tryz.prog ⟨d,.fieldAddr t x i,ty,pos,af,g⟩ ρ w (.pointer (some ⟨b,o+m,none⟩)) w
theorem faO {t i m:Nat}(n:Nat)(h:aFf Tryz.prog t i=some (m,some n):=by kernel_rfl)(hn:n≠0:=by decide):FAt t i m:=fun hx=>aFz h hn hx
theorem nK:FAt 27 0 0:=faO 1
theorem aJn:FAt 27 1 1:=faO 1
theorem qQ:FAt 27 2 2:=faO 1
theorem fa30_0:FAt 30 0 0:=faO 1
theorem fa30_1:FAt 30 1 1:=faO 1
theorem fa30_2:FAt 30 2 2:=faO 1
theorem aIy:FAt 30 3 3:=faO 1
theorem aNq:FAt 30 4 4:=faO 1
theorem aDp:FAt 38 0 0:=faO 1
theorem aEh:FAt 38 1 1:=faO 1
theorem jQ:FAt 38 2 2:=faO 1
theorem jO:FAt 38 3 3:=faO 1
theorem aJd:FAt 47 0 0:=faO 1
theorem fa47_1:FAt 47 1 1:=faO 1
theorem aEv:FAt 47 2 2:=faO 1
theorem aIw:FAt 47 3 3:=faO 1
theorem aJf:FAt 47 4 4:=faO 1
theorem vT:FAt 47 5 5:=faO 1
theorem rD:FAt 52 0 0:=faO 1
theorem aHt:FAt 86 0 0:=faO 1
theorem fa86_1:FAt 86 1 1:=faO 1
theorem fa90_0:FAt 90 0 0:=faO 1
theorem nZ:FAt 90 1 1:=faO 1
theorem vJ:FAt 92 0 0:=faO 1
theorem vK:FAt 92 1 1:=faO 2
theorem fa92_2:FAt 92 2 3:=faO 1
theorem aFc:FAt 94 0 0:=faO 1
theorem aEj:FAt 94 1 1:=faO 1
theorem aJq:FAt 94 2 2:=faO 1
theorem mF:FAt 110 0 0:=faO 1
theorem jG:FAt 110 1 1:=faO 1
theorem aDk:FAt 110 2 2:=faO 1
theorem aDn:FAt 110 3 3:=faO 1
theorem qP:FAt 110 4 4:=faO 1
theorem pJ:FAt 110 5 5:=faO 1
theorem rO:FAt 110 6 6:=faO 1
theorem aDa:FAt 112 0 0:=faO 1
theorem aDh:FAt 112 1 1:=faO 7
theorem aRc:FAt 117 0 0:=faO 1
theorem aQg:FAt 117 1 1:=faO 1
theorem aDd:FAt 117 2 2:=faO 7
theorem aQw:FAt 182 0 0:=faO 1
theorem aDb:FAt 182 2 2:=faO 1
theorem aIc:FAt 182 3 3:=faO 1
theorem aAb:FAt 182 4 4:=faO 1
theorem aPj:FAt 199 0 0:=faO 1
theorem aQa:FAt 199 1 1:=faO 1
theorem aRi:FAt 199 2 2:=faO 1
theorem aPh:FAt 199 3 3:=faO 1
theorem aPz:FAt 199 4 4:=faO 1
theorem fa199_5:FAt 199 5 5:=faO 1
theorem fa199_6:FAt 199 6 6:=faO 1
theorem aAf:FAt 209 0 0:=faO 1
theorem aCs:FAt 209 1 1:=faO 1
theorem fa209_2:FAt 209 2 2:=faO 1
theorem aRo:FAt 209 3 3:=faO 1
theorem fa215_0:FAt 215 0 0:=faO 1
theorem fa215_1:FAt 215 1 1:=faO 1
theorem fa215_2:FAt 215 2 2:=faO 1
theorem aDm:FAt 218 0 0:=faO 1
theorem aIg:FAt 218 1 1:=faO 1
theorem aDf:FAt 218 2 2:=faO 1
theorem rM:FAt 224 0 0:=faO 1
theorem aDj:FAt 224 1 1:=faO 1
theorem fa239_0:FAt 239 0 0:=faO 1
theorem fa241_0:FAt 241 0 0:=faO 1
theorem fa241_1:FAt 241 1 1:=faO 1
theorem fa241_2:FAt 241 2 2:=faO 1
theorem fa243_0:FAt 243 0 0:=faO 1
theorem fa243_1:FAt 243 1 1:=faO 1
theorem fa243_2:FAt 243 2 2:=faO 1
theorem fa243_3:FAt 243 3 3:=faO 1
theorem fa243_4:FAt 243 4 4:=faO 1
theorem fa246_0:FAt 246 0 0:=faO 1
theorem fa246_1:FAt 246 1 1:=faO 1
theorem aQr:FAt 246 2 2:=faO 1
theorem aQk:FAt 246 3 3:=faO 1
theorem fa248_0:FAt 248 0 0:=faO 1
theorem fa250_0:FAt 250 0 0:=faO 1
theorem fa253_0:FAt 253 0 0:=faO 1
theorem fa256_0:FAt 256 0 0:=faO 1
theorem fa256_1:FAt 256 1 1:=faO 1
theorem fa260_0:FAt 260 0 0:=faO 1
theorem aQd:FAt 260 1 1:=faO 1
theorem aQb:FAt 260 2 2:=faO 1
theorem uG:FAt 260 3 3:=faO 1
theorem aAi:FAt 260 4 4:=faO 3
theorem fa263_0:FAt 263 0 0:=faO 1
theorem fa263_1:FAt 263 1 1:=faO 1
theorem aIz:FAt 263 2 2:=faO 1
theorem fa263_3:FAt 263 3 3:=faO 1
theorem fa266_0:FAt 266 0 0:=faO 1
theorem aJu:FAt 266 1 1:=faO 1
theorem fa266_2:FAt 266 2 2:=faO 1
theorem en6:En 6:=fQ Tryz.func6
theorem en7:En 7:=fQ Tryz.func7
theorem en8:En 8:=fQ Tryz.func8
theorem en9:En 9:=fQ Tryz.func9
theorem en14:En 14:=fQ Tryz.func14
theorem en15:En 15:=fQ Tryz.func15
theorem en17:En 17:=fQ Tryz.func17
theorem en22:En 22:=fQ Tryz.func22
theorem en23:En 23:=fQ Tryz.func23
theorem en24:En 24:=fQ Tryz.func24
theorem en25:En 25:=fQ Tryz.func25
theorem en26:En 26:=fQ Tryz.func26
theorem en27:En 27:=fQ Tryz.func27
theorem en28:En 28:=fQ Tryz.func28
theorem en29:En 29:=fQ Tryz.func29
theorem en30:En 30:=fQ Tryz.func30
theorem en31:En 31:=fQ Tryz.func31
theorem en37:En 37:=fQ Tryz.func37
theorem en38:En 38:=fQ Tryz.func38
theorem en43:En 43:=fQ Tryz.func43
theorem en46:En 46:=fQ Tryz.func46
theorem en47:En 47:=fQ Tryz.func47
theorem en48:En 48:=fQ Tryz.func48
theorem en49:En 49:=fQ Tryz.func49
theorem en50:En 50:=fQ Tryz.func50
theorem en51:En 51:=fQ Tryz.func51
theorem en52:En 52:=fQ Tryz.func52
theorem en53:En 53:=fQ Tryz.func53
theorem en54:En 54:=fQ Tryz.func54
theorem en55:En 55:=fQ Tryz.func55
theorem en56:En 56:=fQ Tryz.func56
theorem en57:En 57:=fQ Tryz.func57
theorem en58:En 58:=fQ Tryz.func58
theorem en59:En 59:=fQ Tryz.func59
theorem en60:En 60:=fQ Tryz.func60
theorem en61:En 61:=fQ Tryz.func61
theorem en62:En 62:=fQ Tryz.func62
theorem en63:En 63:=fQ Tryz.func63
theorem en64:En 64:=fQ Tryz.func64
theorem en65:En 65:=fQ Tryz.func65
theorem en71:En 71:=fQ Tryz.func71
theorem en72:En 72:=fQ Tryz.func72
theorem en73:En 73:=fQ Tryz.func73
theorem en75:En 75:=fQ Tryz.func75
theorem en80:En 80:=fQ Tryz.func80
theorem en81:En 81:=fQ Tryz.func81
theorem aOi:En 82:=fQ Tryz.func82
theorem en83:En 83:=fQ Tryz.func83
theorem en84:En 84:=fQ Tryz.func84
theorem en85:En 85:=fQ Tryz.func85
theorem en86:En 86:=fQ Tryz.func86
theorem aLx:En 87:=fQ Tryz.func87
theorem en88:En 88:=fQ Tryz.func88
theorem en89:En 89:=fQ Tryz.func89
theorem en90:En 90:=fQ Tryz.func90
theorem en91:En 91:=fQ Tryz.func91
theorem en92:En 92:=fQ Tryz.func92
theorem en93:En 93:=fQ Tryz.func93
theorem en94:En 94:=fQ Tryz.func94
theorem en95:En 95:=fQ Tryz.func95
theorem en96:En 96:=fQ Tryz.func96
theorem en97:En 97:=fQ Tryz.func97
theorem en98:En 98:=fQ Tryz.func98
theorem en99:En 99:=fQ Tryz.func99
theorem en100:En 100:=fQ Tryz.func100
theorem en107:En 107:=fQ Tryz.func107
theorem en108:En 108:=fQ Tryz.func108
theorem en112:En 112:=fQ Tryz.func112
theorem en113:En 113:=fQ Tryz.func113
theorem en114:En 114:=fQ Tryz.func114
theorem en115:En 115:=fQ Tryz.func115
theorem en116:En 116:=fQ Tryz.func116
theorem en117:En 117:=fQ Tryz.func117
theorem en118:En 118:=fQ Tryz.func118
theorem en119:En 119:=fQ Tryz.func119
theorem en120:En 120:=fQ Tryz.func120
theorem en121:En 121:=fQ Tryz.func121
theorem en126:En 126:=fQ Tryz.func126
theorem en127:En 127:=fQ Tryz.func127
theorem en139:En 139:=fQ Tryz.func139
theorem en140:En 140:=fQ Tryz.func140
theorem en141:En 141:=fQ Tryz.func141
theorem en146:En 146:=fQ Tryz.func146
theorem en147:En 147:=fQ Tryz.func147
theorem en148:En 148:=fQ Tryz.func148
theorem en149:En 149:=fQ Tryz.func149
theorem en150:En 150:=fQ Tryz.func150
theorem aPy:En 158:=fQ Tryz.func158
theorem en163:En 163:=fQ Tryz.func163
theorem en164:En 164:=fQ Tryz.func164
theorem en166:En 166:=fQ Tryz.func166
theorem en167:En 167:=fQ Tryz.func167
theorem en168:En 168:=fQ Tryz.func168
theorem en172:En 172:=fQ Tryz.func172
theorem en175:En 175:=fQ Tryz.func175
theorem en176:En 176:=fQ Tryz.func176
theorem en186:En 186:=fQ Tryz.func186
theorem en187:En 187:=fQ Tryz.func187
theorem en209:En 209:=fQ Tryz.func209
theorem en211:En 211:=fQ Tryz.func211
theorem en212:En 212:=fQ Tryz.func212
theorem en213:En 213:=fQ Tryz.func213
theorem aLk:En 214:=fQ Tryz.func214
theorem en216:En 216:=fQ Tryz.func216
theorem en217:En 217:=fQ Tryz.func217
theorem en219:En 219:=fQ Tryz.func219
theorem en221:En 221:=fQ Tryz.func221
theorem en223:En 223:=fQ Tryz.func223
theorem en225:En 225:=fQ Tryz.func225
theorem en226:En 226:=fQ Tryz.func226
theorem en228:En 228:=fQ Tryz.func228
theorem en230:En 230:=fQ Tryz.func230
theorem en232:En 232:=fQ Tryz.func232
theorem en234:En 234:=fQ Tryz.func234
theorem mixed:Tryz.prog.follows .mixedOrders=true:=by kernel_rfl
theorem Fahw (d:Int)(f:Int)(h:Int)(r:Bool)(c:Fah d f h=some r)(O S:List Nat)(w:World)(H:Hd O w w S []):
  Cl 26 [i6 d,i6 f,i6 h] w fun e l=>e= .returned (.bool r)∧Hd O w l S []:=by
 unfold Fah at c
 refine CW 15 Tryz.func26 ?_
 refine zB fun s m=>zA<| zI (.bool false)<| RN m ?_
 obtain ⟨j,c,n⟩:=zC c
 refine yG [6,7,8,9,10,11,12,13,14] (fun (g:Unit)=>[(6,.bool j)]) (fun g wl=>Hd O w wl S []) ?_ ?_
 ·skip
  refine zA ?_
  refine zH (i6 d)<| zH (i6 f) ?_
  obtain ⟨o,p,c⟩:=zD c
  refine zG (zO (aN (a:=d) (b:=f) rfl rfl) p)<| yO (b:=o) rfl rfl rfl (fun i=>?_) (fun i=>?_)
  ·have c:=zN i c
   refine zH (i6 d)<| zH (i6 h) ?_
   obtain ⟨k,q,c⟩:=zD c
   refine zG (zO (pO (a:=d) (b:=h) rfl rfl) q)<| zG (yL (v:= .bool k) rfl rfl)<| zI (.bool k) ?_
   obtain rfl:=gG c
   exact (zT (zF (meet ⟨(),(zJ rfl zK),H.pick []⟩)))
  have c:=zM i c
  refine yE ?_
  refine yE ?_
  refine yE ?_
  refine zG (yF (v:= .bool false) rfl rfl)<| zI (.bool false) ?_
  obtain rfl:=gG c
  exact (zT (zF (meet ⟨(),(zJ rfl zK),H.pick []⟩)))
 rintro _ ρ t H
 have c:=n
 obtain rfl:=gG c
 refine (zX (gV (v1:= .bool j) rfl rfl ?_))
 exact ⟨rfl,H.pick []⟩
theorem aNu (d:Int)(f:Int)(h:Int)(r:Bool)(c:Fae d f h=some r)(O S:List Nat)(w:World)(H:Hd O w w S []):
  Cl 82 [i6 d,i6 f,i6 h] w fun e l=>e= .returned (.bool r)∧Hd O w l S []:=by
 unfold Fae at c
 refine CW 15 Tryz.func82 ?_
 refine zB fun s m=>zA<| zI (.bool false)<| RN m ?_
 obtain ⟨j,c,n⟩:=zC c
 refine yG [6,7,8,9,10,11,12,13,14] (fun (g:Unit)=>[(6,.bool j)]) (fun g wl=>Hd O w wl S []) ?_ ?_
 ·skip
  refine zA ?_
  refine zH (i6 d)<| zH (i6 f) ?_
  obtain ⟨o,p,c⟩:=zD c
  refine zG (zO (aN (a:=d) (b:=f) rfl rfl) p)<| yO (b:=o) rfl rfl rfl (fun i=>?_) (fun i=>?_)
  ·have c:=zN i c
   refine zH (i6 d)<| zH (i6 h) ?_
   obtain ⟨k,q,c⟩:=zD c
   refine zG (zO (pO (a:=d) (b:=h) rfl rfl) q)<| zG (yL (v:= .bool k) rfl rfl)<| zI (.bool k) ?_
   obtain rfl:=gG c
   exact (zT (zF (meet ⟨(),(zJ rfl zK),H.pick []⟩)))
  have c:=zM i c
  refine yE ?_
  refine yE ?_
  refine yE ?_
  refine zG (yF (v:= .bool false) rfl rfl)<| zI (.bool false) ?_
  obtain rfl:=gG c
  exact (zT (zF (meet ⟨(),(zJ rfl zK),H.pick []⟩)))
 rintro _ ρ t H
 have c:=n
 obtain rfl:=gG c
 refine (zX (gV (v1:= .bool j) rfl rfl ?_))
 exact ⟨rfl,H.pick []⟩
set_option maxRecDepth 100000 in
theorem Fcbw (c:Str)(r:Bool)(a:Fcb c=some r)(O S:List Nat)(w:World)(H:Hd O w w S []):
  Cl 83 [sb c] w fun e P=>e= .returned (.bool r)∧Hd O w P S []:=by
 unfold Fcb at a
 refine CW 21 Tryz.func83 ?_
 refine zB fun K1 Q=>zA<| zI (.bool false)<| RN Q<| zB fun a7 R=>zB fun a8 T=>zA<| zH (sb c)<| RN T<| yD ?_
 obtain ⟨x,a,U⟩:=zC a
 refine yG [4,5,6,7,8,9,10,11,12,13,14,15,16,17,18,19,20] (fun (g:Unit)=>[(4,.bool x)]) (fun g wl=>Hd O w wl S []) ?_ ?_
 ·skip
  refine zB fun a9 V=>zA ?_
  obtain ⟨y,X,a⟩:=zD a
  refine zG (zO (dK (s1:=c) (s2:=[112,104,97,115,101]) rfl rfl) X)<| zI (.bool y)<| RN V<| zW (b:=y) rfl (fun d=>?_) (fun d=>?_)
  ·have a:=zN d a
   obtain rfl:=gG a
   exact (zZ (zF (meet ⟨(),(zJ rfl zK),H.pick []⟩)))
  have a:=zM d a
  refine zB fun ba Y=>zA ?_
  obtain ⟨z,Z,a⟩:=zD a
  refine zG (zO (dK (s1:=c) (s2:=[109,111,118,101]) rfl rfl) Z)<| zI (.bool z)<| RN Y<| zW (b:=z) rfl (fun f=>?_) (fun f=>?_)
  ·have a:=zN f a
   obtain rfl:=gG a
   exact (zZ (zF (meet ⟨(),(zJ rfl zK),H.pick []⟩)))
  have a:=zM f a
  refine zB fun bb aa=>zA ?_
  obtain ⟨A,ab,a⟩:=zD a
  refine zG (zO (dK (s1:=c) (s2:=[114,117,108,101]) rfl rfl) ab)<| zI (.bool A)<| RN aa<| zW (b:=A) rfl (fun h=>?_) (fun h=>?_)
  ·have a:=zN h a
   obtain rfl:=gG a
   exact (zZ (zF (meet ⟨(),(zJ rfl zK),H.pick []⟩)))
  have a:=zM h a
  refine zB fun bc ac=>zA ?_
  obtain ⟨B,ad,a⟩:=zD a
  refine zG (zO (dK (s1:=c) (s2:=[105,102]) rfl rfl) ad)<| zI (.bool B)<| RN ac<| zW (b:=B) rfl (fun i=>?_) (fun i=>?_)
  ·have a:=zN i a
   obtain rfl:=gG a
   exact (zZ (zF (meet ⟨(),(zJ rfl zK),H.pick []⟩)))
  have a:=zM i a
  refine zB fun bd ae=>zA ?_
  obtain ⟨C,af,a⟩:=zD a
  refine zG (zO (dK (s1:=c) (s2:=[111,114]) rfl rfl) af)<| zI (.bool C)<| RN ae<| zW (b:=C) rfl (fun j=>?_) (fun j=>?_)
  ·have a:=zN j a
   obtain rfl:=gG a
   exact (zZ (zF (meet ⟨(),(zJ rfl zK),H.pick []⟩)))
  have a:=zM j a
  refine zB fun be ag=>zA ?_
  obtain ⟨D,ah,a⟩:=zD a
  refine zG (zO (dK (s1:=c) (s2:=[97,110,100]) rfl rfl) ah)<| zI (.bool D)<| RN ag<| zW (b:=D) rfl (fun k=>?_) (fun k=>?_)
  ·have a:=zN k a
   obtain rfl:=gG a
   exact (zZ (zF (meet ⟨(),(zJ rfl zK),H.pick []⟩)))
  have a:=zM k a
  refine zB fun bf ai=>zA ?_
  obtain ⟨E,aj,a⟩:=zD a
  refine zG (zO (dK (s1:=c) (s2:=[116,114,117,101]) rfl rfl) aj)<| zI (.bool E)<| RN ai<| zW (b:=E) rfl (fun l=>?_) (fun l=>?_)
  ·have a:=zN l a
   obtain rfl:=gG a
   exact (zZ (zF (meet ⟨(),(zJ rfl zK),H.pick []⟩)))
  have a:=zM l a
  refine zB fun bg ak=>zA ?_
  obtain ⟨F,al,a⟩:=zD a
  refine zG (zO (dK (s1:=c) (s2:=[102,97,108,115,101]) rfl rfl) al)<| zI (.bool F)<| RN ak<| zW (b:=F) rfl (fun m=>?_) (fun m=>?_)
  ·have a:=zN m a
   obtain rfl:=gG a
   exact (zZ (zF (meet ⟨(),(zJ rfl zK),H.pick []⟩)))
  have a:=zM m a
  refine zB fun bh am=>zA ?_
  obtain ⟨G,an,a⟩:=zD a
  refine zG (zO (dK (s1:=c) (s2:=[115,116,101,97,100,121]) rfl rfl) an)<| zI (.bool G)<| RN am<| zW (b:=G) rfl (fun n=>?_) (fun n=>?_)
  ·have a:=zN n a
   obtain rfl:=gG a
   exact (zZ (zF (meet ⟨(),(zJ rfl zK),H.pick []⟩)))
  have a:=zM n a
  refine zB fun bi ao=>zA ?_
  obtain ⟨I,ap,a⟩:=zD a
  refine zG (zO (dK (s1:=c) (s2:=[110,111,116]) rfl rfl) ap)<| zI (.bool I)<| RN ao<| zW (b:=I) rfl (fun o=>?_) (fun o=>?_)
  ·have a:=zN o a
   obtain rfl:=gG a
   exact (zZ (zF (meet ⟨(),(zJ rfl zK),H.pick []⟩)))
  have a:=zM o a
  refine zB fun bj aq=>zA ?_
  obtain ⟨J,ar,a⟩:=zD a
  refine zG (zO (dK (s1:=c) (s2:=[102,111,114]) rfl rfl) ar)<| zI (.bool J)<| RN aq<| zW (b:=J) rfl (fun p=>?_) (fun p=>?_)
  ·have a:=zN p a
   obtain rfl:=gG a
   exact (zZ (zF (meet ⟨(),(zJ rfl zK),H.pick []⟩)))
  have a:=zM p a
  refine zB fun bk au=>zA ?_
  obtain ⟨K,av,a⟩:=zD a
  refine zG (zO (dK (s1:=c) (s2:=[119,105,116,104,105,110]) rfl rfl) av)<| zI (.bool K)<| RN au<| zW (b:=K) rfl (fun q=>?_) (fun q=>?_)
  ·have a:=zN q a
   obtain rfl:=gG a
   exact (zZ (zF (meet ⟨(),(zJ rfl zK),H.pick []⟩)))
  have a:=zM q a
  refine zB fun bl aw=>zA ?_
  obtain ⟨L,ax,a⟩:=zD a
  refine zG (zO (dK (s1:=c) (s2:=[99,111,117,110,116]) rfl rfl) ax)<| zI (.bool L)<| RN aw<| zW (b:=L) rfl (fun s=>?_) (fun s=>?_)
  ·have a:=zN s a
   obtain rfl:=gG a
   exact (zZ (zF (meet ⟨(),(zJ rfl zK),H.pick []⟩)))
  have a:=zM s a
  refine zB fun bm ay=>zA ?_
  obtain ⟨M,az,a⟩:=zD a
  refine zG (zO (dK (s1:=c) (s2:=[111,102]) rfl rfl) az)<| zI (.bool M)<| RN ay<| zW (b:=M) rfl (fun t=>?_) (fun t=>?_)
  ·have a:=zN t a
   obtain rfl:=gG a
   exact (zZ (zF (meet ⟨(),(zJ rfl zK),H.pick []⟩)))
  have a:=zM t a
  refine zB fun bn a0=>zA ?_
  obtain ⟨N,a1,a⟩:=zD a
  refine zG (zO (dK (s1:=c) (s2:=[114,105,115,101,115]) rfl rfl) a1)<| zI (.bool N)<| RN a0<| zW (b:=N) rfl (fun u=>?_) (fun u=>?_)
  ·have a:=zN u a
   obtain rfl:=gG a
   exact (zZ (zF (meet ⟨(),(zJ rfl zK),H.pick []⟩)))
  have a:=zM u a
  refine zA ?_
  obtain ⟨a2,a3,a⟩:=zD a
  refine zG (zO (dK (s1:=c) (s2:=[115,105,110,99,101]) rfl rfl) a3)<| zI (.bool a2) ?_
  obtain rfl:=gG a
  exact (zT (zF (meet ⟨(),(zJ rfl zK),H.pick []⟩)))
 rintro _ ρ bo H
 have a:=U
 refine zW (b:=x) rfl (fun v=>?_) (fun v=>?_)
 ·have a:=zN v a
  refine zB fun bp a4=>zA<| zI (.bool true)<| RN a4 ?_
  obtain rfl:=gG a
  refine (zX (yA (zQ (gV (v1:= .bool true) rfl rfl ?_))))
  exact ⟨rfl,H.pick []⟩
 have a:=zM v a
 refine (zZ (yJ (zF (R _ _ ?_))))
 refine zB fun bq a5=>zA<| zI (.bool false)<| RN a5 ?_
 obtain rfl:=gG a
 refine (zX (gV (v1:= .bool false) rfl rfl ?_))
 exact ⟨rfl,H.pick []⟩
set_option maxRecDepth 100000 in
theorem Fb9w (d:Int)(r:Bool)(c:Fb9 d=some r)(O S:List Nat)(w:World)(H:Hd O w w S []):
  Cl 84 [.int .u8 d] w fun e p=>e= .returned (.bool r)∧Hd O w p S []:=by
 unfold Fb9 at c
 refine CW 21 Tryz.func84 ?_
 refine zB fun F q=>zA<| zI (.bool false)<| RN q ?_
 obtain ⟨k,c,s⟩:=zC c
 refine yG [2,3,4,5,6,7,8,9,10,11,12,13,14,15,16,17,18,19,20] (fun (g:Unit)=>[(2,.bool k)]) (fun g wl=>Hd O w wl S []) ?_ ?_
 ·skip
  refine zA ?_
  refine zH (.int .u8 d) ?_
  obtain ⟨t,u,c⟩:=zD c
  refine zG (zO (aN (a:=d) (b:=97) rfl rfl) u) ?_
  obtain ⟨l,c,x⟩:=zC c
  refine dO 4 [5,6,7,8] [(8,.bool l)] (fun wl=>Hd O w wl S []) ?_ ?_
  ·skip
   refine yO (b:=t) rfl rfl rfl (fun f=>?_) (fun f=>?_)
   ·have c:=zN f c
    refine zH (.int .u8 d) ?_
    obtain ⟨y,z,c⟩:=zD c
    refine zG (zO (pO (a:=d) (b:=122) rfl rfl) z)<| zG (yL (v:= .bool y) rfl rfl) ?_
    obtain rfl:=gG c
    exact zT (zF (meet ⟨(zJ rfl zK),H.pick []⟩))
   have c:=zM f c
   refine yE ?_
   refine yE ?_
   refine zG (yF (v:= .bool false) rfl rfl) ?_
   obtain rfl:=gG c
   exact zT (zF (meet ⟨(zJ rfl zK),H.pick []⟩))
  rintro ρ G H
  have c:=x
  obtain ⟨m,c,A⟩:=zC c
  refine dO 8 [9,10,11,12,13,14,15,16] [(16,.bool m)] (fun wl=>Hd O w wl S []) ?_ ?_
  ·skip
   refine yO (b:=l) rfl rfl rfl (fun h=>?_) (fun h=>?_)
   ·have c:=zN h c
    refine yE ?_
    refine yE ?_
    refine yE ?_
    refine yE ?_
    refine yE ?_
    refine yE ?_
    refine zG (yL (v:= .bool true) rfl rfl) ?_
    obtain rfl:=gG c
    exact zT (zF (meet ⟨(zJ rfl zK),H.pick []⟩))
   have c:=zM h c
   refine zH (.int .u8 d) ?_
   obtain ⟨B,C,c⟩:=zD c
   refine zG (zO (aN (a:=d) (b:=48) rfl rfl) C)<| yO (b:=B) rfl rfl rfl (fun i=>?_) (fun i=>?_)
   ·have c:=zN i c
    refine zH (.int .u8 d) ?_
    obtain ⟨n,D,c⟩:=zD c
    refine zG (zO (pO (a:=d) (b:=57) rfl rfl) D)<| zG (yL (v:= .bool n) rfl rfl)<| zG (yF (v:= .bool n) rfl rfl) ?_
    obtain rfl:=gG c
    exact zT (zF (meet ⟨(zJ rfl zK),H.pick []⟩))
   have c:=zM i c
   refine yE ?_
   refine yE ?_
   refine zG (yF (v:= .bool false) rfl rfl)<| zG (yF (v:= .bool false) rfl rfl) ?_
   obtain rfl:=gG c
   exact zT (zF (meet ⟨(zJ rfl zK),H.pick []⟩))
  rintro ρ I H
  have c:=A
  refine yO (b:=m) rfl rfl rfl (fun j=>?_) (fun j=>?_)
  ·have c:=zN j c
   refine yE ?_
   refine yE ?_
   refine zG (yL (v:= .bool true) rfl rfl)<| zI (.bool true) ?_
   obtain rfl:=gG c
   exact (zT (zF (meet ⟨(),(zJ rfl zK),H.pick []⟩)))
  have c:=zM j c
  refine zH (.int .u8 d) ?_
  obtain ⟨o,E,c⟩:=zD c
  refine zG (zO (yY (a:=d) (b:=45) rfl rfl) E)<| zG (yF (v:= .bool o) rfl rfl)<| zI (.bool o) ?_
  obtain rfl:=gG c
  exact (zT (zF (meet ⟨(),(zJ rfl zK),H.pick []⟩)))
 rintro _ ρ J H
 have c:=s
 obtain rfl:=gG c
 refine (zX (gV (v1:= .bool k) rfl rfl ?_))
 exact ⟨rfl,H.pick []⟩
set_option maxRecDepth 100000 in
theorem Faiw (d:Str)(r:Bool)(c:Fai d=some r)(O S:List Nat)(w:World)(H:Hd O w w S []):
  Cl 47 [sb d] w fun e x=>e= .returned (.bool r)∧Hd O w x S []:=by
 unfold Fai at c
 refine CW 33 Tryz.func47 ?_
 refine zB fun K1 y=>zA<| zI (.bool false)<| RN y<| zB fun a5 z=>?_
 obtain ⟨n,c,A⟩:=zC c
 refine yG [4,5,6,7,8,9,10,11,12,13,14,15,16,17,18,19,20,21] (fun (g:Unit)=>[(21,.bool n)]) (fun g wl=>Hd O w wl S []) ?_ ?_
 ·skip
  refine zA ?_
  refine zH (sb d) ?_
  obtain ⟨B,C,c⟩:=zD c
  refine zG (yH (aHy (s1:=d) u9 rfl) (congrArg (Value.int .i64) C)) ?_
  have D:=H
  obtain ⟨E,F,c⟩:=zC c
  refine yB rfl rfl (zY aOi rfl) (aNu B 1 30 _ F _ _ _ (H.enter [] [])) ?_
  rintro _ a6 ⟨rfl,G⟩
  have H:=D.step (G.only:Only [] _ _)
  refine ⟨_,rfl,?_⟩
  obtain ⟨I,J,c⟩:=zD c
  refine zG (zO (xX (p:=E) rfl) J) ?_
  obtain ⟨o,c,K⟩:=zC c
  refine dO 5 [8,9,10,11,12] [(12,.bool o)] (fun wl=>Hd O w wl S []) ?_ ?_
  ·skip
   refine yO (b:=I) rfl rfl rfl (fun h=>?_) (fun h=>?_)
   ·have c:=zN h c
    refine yE ?_
    refine yE ?_
    refine yE ?_
    refine zG (yL (v:= .bool true) rfl rfl) ?_
    obtain rfl:=gG c
    exact zT (zF (meet ⟨(zJ rfl zK),H.pick []⟩))
   have c:=zM h c
   refine zH (sb d) ?_
   obtain ⟨L,M,c⟩:=zC c
   refine zG (aJe (s1:=d) (q:=0) u9 rfl rfl M) ?_
   obtain ⟨N,P,c⟩:=zD c
   refine zG (zO (xH (a:=L) (b:=97) rfl rfl) P)<| zG (yF (v:= .bool N) rfl rfl) ?_
   obtain rfl:=gG c
   exact zT (zF (meet ⟨(zJ rfl zK),H.pick []⟩))
  rintro ρ a7 H
  have c:=K
  obtain ⟨s,c,Q⟩:=zC c
  refine dO 5 [13,14,15,16,17] [(17,.bool s)] (fun wl=>Hd O w wl S []) ?_ ?_
  ·skip
   refine yO (b:=o) rfl rfl rfl (fun i=>?_) (fun i=>?_)
   ·have c:=zN i c
    refine yE ?_
    refine yE ?_
    refine yE ?_
    refine zG (yL (v:= .bool true) rfl rfl) ?_
    obtain rfl:=gG c
    exact zT (zF (meet ⟨(zJ rfl zK),H.pick []⟩))
   have c:=zM i c
   refine zH (sb d) ?_
   obtain ⟨R,T,c⟩:=zC c
   refine zG (aJe (s1:=d) (q:=0) u9 rfl rfl T) ?_
   obtain ⟨U,V,c⟩:=zD c
   refine zG (zO (cZ (a:=R) (b:=122) rfl rfl) V)<| zG (yF (v:= .bool U) rfl rfl) ?_
   obtain rfl:=gG c
   exact zT (zF (meet ⟨(zJ rfl zK),H.pick []⟩))
  rintro ρ a8 H
  have c:=Q
  refine yO (b:=s) rfl rfl rfl (fun j=>?_) (fun j=>?_)
  ·have c:=zN j c
   refine yE ?_
   refine yE ?_
   refine zG (yL (v:= .bool true) rfl rfl) ?_
   obtain rfl:=gG c
   exact (zT (zF (meet ⟨(),(zJ rfl zK),H.pick []⟩)))
  have c:=zM j c
  refine zH (sb d) ?_
  have X:=H
  obtain ⟨Y,Z,c⟩:=zC c
  refine yB rfl rfl (zY en83 rfl) (Fcbw d _ Z _ _ _ (H.enter [] [])) ?_
  rintro _ a9 ⟨rfl,aa⟩
  have H:=X.step (aa.only:Only [] _ _)
  refine ⟨_,rfl,?_⟩
  refine zG (yF (v:= .bool Y) rfl rfl) ?_
  obtain rfl:=gG c
  exact (zT (zF (meet ⟨(),(zJ rfl zK),H.pick []⟩)))
 rintro _ ρ ba H
 have c:=A
 refine zW (b:=n) rfl (fun k=>?_) (fun k=>?_)
 ·have c:=zN k c
  refine zB fun bb ab=>zA<| zI (.bool false)<| RN ab ?_
  obtain rfl:=gG c
  refine (zX (zQ (gV (v1:= .bool false) rfl rfl ?_)))
  exact ⟨rfl,H.pick []⟩
 have c:=zM k c
 refine zZ (zF (z _ _ ?_))
 obtain ⟨ac,ad,c⟩:=xW c
 refine yG [2,3,22,23,24,25,26,27,28,29,30,31,32] (fun (g:Unit)=>[]) (fun g wl=>Hd O w wl S []∧ac ()=some r) ?_ ?_
 ·skip
  refine zB fun bc ae=>zA<| zH (sb d) ?_
  obtain ⟨af,ag,c⟩:=zD c
  refine zG (yH (aHy (s1:=d) u9 rfl) (congrArg (Value.int .i64) ag))<| zH (i6 0)<| RN ae<| yD ?_
  unfold Fed at c
  obtain ⟨ah,t,ai,c⟩:=yQ c
  refine xA [2,3,24,25,26,27,28,29,30,31,32] (fun (g:Nat×Int)=>[(24,i6 g.2)]) (fun g wl=>Hd O w wl S []∧fV ah g.1 g.2=some r) (fun g=>g.1) (t,0) (zJ rfl zK) ⟨H.pick [],c⟩ ?_
  clear H c
  rintro ⟨t,f⟩ ρ bd ⟨H,c⟩
  obtain ⟨aj,rfl,c⟩:=yT c
  have c:=yV ai c
  refine zB fun be ak=>zA ?_
  obtain ⟨al,am,c⟩:=zD c
  refine zG (zO (xH (a:=f) (b:=af) rfl rfl) am)<| RN ak<| zB fun bf an=>zW (b:=al) rfl (fun l=>?_) (fun l=>?_)
  ·have c:=zN l c
   refine zZ (zF (an _ _ ?_))
   refine zB fun bg ao=>?_
   refine yD ?_
   refine zB fun bh ap=>zA<| zH (i6 f)<| zI (i6 f)<| RN ap<| zB fun bi aq=>zA<| zH (sb d)<| zH (i6 f) ?_
   obtain ⟨ar,au,c⟩:=zC c
   refine zG (aJe (s1:=d) (q:=f) u9 rfl rfl au) ?_
   have av:=H
   obtain ⟨aw,ax,c⟩:=zC c
   refine yB rfl rfl (zY en84 rfl) (Fb9w ar _ ax _ _ _ (H.enter [] [])) ?_
   rintro _ bj ⟨rfl,ay⟩
   have H:=av.step (ay.only:Only [] _ _)
   refine ⟨_,rfl,?_⟩
   obtain ⟨az,a0,c⟩:=zD c
   refine zG (zO (xX (p:=aw) rfl) a0)<| RN aq<| zW (b:=az) rfl (fun m=>?_) (fun m=>?_)
   ·have c:=zN m c
    refine zB fun bk a1=>zA<| zI (.bool false)<| RN a1 ?_
    obtain rfl:=gG c
    refine (zX (yA (zQ (zQ (yA (zQ (gV (v1:= .bool false) rfl rfl ?_)))))))
    exact ⟨rfl,H.pick []⟩
   have c:=zM m c
   refine (zZ (yJ (zF (ao _ _ ?_))))
   refine zA ?_
   obtain ⟨u,a2,c⟩:=zD c
   refine zG (xC (a:=f) (b:=1) rfl rfl a2)<| zH (i6 u) ?_
   exact (zT (zF (meet ⟨(aj,u),(zJ rfl zK),⟨H.pick [],c⟩,Nat.lt_succ_self _⟩)))
  have c:=zM l c
  exact (xE (yK (yK (yR (zF (meet ⟨(),zK,⟨H.pick [],c⟩⟩))))))
 rintro _ ρ bl ⟨H,c⟩
 have c:=wE ad c
 refine zB fun bm a3=>zA<| zI (.bool true)<| RN a3 ?_
 obtain rfl:=gG c
 refine (zX (gV (v1:= .bool true) rfl rfl ?_))
 exact ⟨rfl,H.pick []⟩
theorem Faqw (a:Str)(r:Bool)(b:Faq a=some r)(O S:List Nat)(w:World)(H:Hd O w w S []):
  Cl 52 [sb a] w fun e d=>e= .returned (.bool r)∧Hd O w d S []:=by
 unfold Faq at b
 refine CW 5 Tryz.func52 ?_
 refine zB fun l f=>zA<| zI (.bool false)<| RN f<| zB fun m h=>zA<| zH (sb a) ?_
 have i:=H
 obtain ⟨c,j,b⟩:=zC b
 refine yB rfl rfl (zY en47 rfl) (Faiw a _ j _ _ _ (H.enter [] [])) ?_
 rintro _ n ⟨rfl,k⟩
 have H:=i.step (k.only:Only [] _ _)
 refine ⟨_,rfl,?_⟩
 refine zI (.bool c)<| RN h ?_
 obtain rfl:=gG b
 refine (zX (gV (v1:= .bool c) rfl rfl ?_))
 exact ⟨rfl,H.pick []⟩
theorem Fdxw (a:Track)(b:Track)(v1:Value)(d:Nat)(f:Value)(r:Bool)(c:Fdx a b=some r)(O S:List Nat)(w:World)(H:Hd O w w S [.blk d [sb b.Name,i6 b.Series.Den,f,i6 b.Long] 92,f1 fM v1 a.Series.Samples,f1 fM f b.Series.Samples]):
  Cl 113 [.agg [sb a.Name,i6 a.Series.Den,v1,i6 a.Long].toArray,gX d] w fun e i=>e= .returned (.bool r)∧Hd O w i S [.blk d [sb b.Name,i6 b.Series.Den,f,i6 b.Long] 92]:=by
 unfold Fdx at c
 refine CW 9 Tryz.func113 ?_
 refine zB fun m j=>zA<| yP rfl rfl (xJ (cs:=[sb a.Name,i6 a.Series.Den,v1,i6 a.Long]) rfl H) ?_
 rintro _ n ⟨o,rfl,H⟩
 refine zI (.bool false)<| RN j<| zB fun p k=>zA<| zG (vJ rfl)<| Ld dX H 3 0 rfl rfl<| zG (vJ rfl)<| Ld dX H 0 0 rfl rfl ?_
 obtain ⟨h,l,c⟩:=zD c
 refine zG (zO (dK (s1:=a.Name) (s2:=b.Name) rfl rfl) l)<| zI (.bool h)<| RN k ?_
 obtain rfl:=gG c
 refine (zX (gV (v1:= .bool h) rfl rfl ?_))
 exact ⟨rfl,H.pick [0]⟩
theorem Fbsw (k:List Track)(p1c0:Track)(v1:Value)(h:Nat)(f:Value)(r:Int)(c:Fbs k p1c0=some r)(O S:List Nat)(w:World)(H:Hd O w w S [.blk h [sb p1c0.Name,i6 p1c0.Series.Den,f,i6 p1c0.Long] 92,f1 fF v1 k,f1 fM f p1c0.Series.Samples]):
  Cl 139 [v1,.func (.func 113) #[] #[gX h]] w fun e s=>e= .returned (i6 r)∧Hd O w s S [.blk h [sb p1c0.Name,i6 p1c0.Series.Den,f,i6 p1c0.Long] 92]:=by
 unfold Fbs at c
 refine CW 19 Tryz.func139 ?_
 refine zB fun K7 t=>zA<| zI (i6 0)<| RN t ?_
 obtain ⟨u,v,c⟩:=xW c
 refine yG [4,5,6,7,8,9,10,11,12,13,14,15,16,17,18] (fun (g:Unit)=>[]) (fun g wl=>Hd O w wl S [.blk h [sb p1c0.Name,i6 p1c0.Series.Den,f,i6 p1c0.Long] 92,f1 fM f p1c0.Series.Samples]∧u ()=some r) ?_ ?_
 ·skip
  refine zB fun ae x=>zA<| zH v1 ?_
  obtain ⟨y,z,c⟩:=zD c
  obtain ⟨af,ag,A⟩:=SlF.len ((H.item (i:=1) rfl))
  refine zG (yH (yZ u45 A) (congrArg (Value.int .i64) z))<| zH (i6 0)<| RN x<| yD ?_
  unfold Ffi at c
  obtain ⟨B,p,C,c⟩:=yQ c
  refine xA [4,5,8,9,10,11,12,13,14,15,16,17,18] (fun (g:Nat×Int)=>[(8,i6 g.2)]) (fun g wl=>Hd O w wl S [.blk h [sb p1c0.Name,i6 p1c0.Series.Den,f,i6 p1c0.Long] 92,f1 fM f p1c0.Series.Samples,f1 fF v1 k]∧fV B g.1 g.2=some r) (fun g=>g.1) (p,0) (zJ rfl zK) ⟨H.pick [0,2,1],c⟩ ?_
  clear H c
  rintro ⟨p,d⟩ ρ ah ⟨H,c⟩
  obtain ⟨D,rfl,c⟩:=yT c
  have c:=yV C c
  refine zB fun ai E=>zA ?_
  obtain ⟨F,G,c⟩:=zD c
  refine zG (zO (xH (a:=d) (b:=y) rfl rfl) G)<| RN E<| zB fun aj I=>zW (b:=F) rfl (fun l=>?_) (fun l=>?_)
  ·have c:=zN l c
   refine zZ (zF (I _ _ ?_))
   refine zB fun ak J=>?_
   refine yD ?_
   refine zB fun al K=>zA<| zH (i6 d)<| zI (i6 d)<| RN K<| zB fun am L=>zA<| zH (.func (.func 113) #[] #[gX h])<| zH v1<| zH (i6 d) ?_
   obtain ⟨j,m,c⟩:=zC c
   obtain ⟨M,N,an,ao,P,Q,R,T,U⟩:=wJ (H.item (i:=2) rfl) m
   obtain ⟨n,rfl,V⟩:=bY Q
   have H:=H.fzs [.at M (N+d.toNat * 4) _,.sl fM n j.Series.Samples] ⟨⟨R,T,U⟩,V,trivial⟩
   refine zG (yS u45 qR P rfl (zU m).1 (zU m).2.1 rfl rfl)<| zG (yH (yI (cs:=[sb j.Name,i6 j.Series.Den,n,i6 j.Long]) aFu rfl qR rfl (H.item (i:=3) rfl).2.2) rfl) ?_
   obtain ⟨X,Y,c⟩:=zC c
   refine yB rfl rfl (bP en113 rfl rfl) (Fdxw j p1c0 n h f _ Y _ _ _ (H.enter [0] [4,1])) ?_
   rintro _ ap ⟨rfl,Z⟩
   have H:Hd _ _ _ _ [_,_,_,_,_]:=H.back [0] [4,1] rfl Z
   refine ⟨_,rfl,?_⟩
   refine RN L<| zW (b:=X) rfl (fun o=>?_) (fun o=>?_)
   ·have c:=zN o c
    refine zB fun aq aa=>zA<| zH (i6 d)<| zI (i6 d)<| RN aa ?_
    obtain rfl:=gG c
    refine (zX (yA (zQ (zQ (yA (zQ (gV (v1:=i6 d) rfl rfl ?_)))))))
    exact ⟨rfl,H.pick [4]⟩
   have c:=zM o c
   refine (zZ (yJ (zF (J _ _ ?_))))
   refine zA ?_
   obtain ⟨q,ab,c⟩:=zD c
   refine zG (xC (a:=d) (b:=1) rfl rfl ab)<| zH (i6 q) ?_
   exact (zT (zF (meet ⟨(D,q),(zJ rfl zK),⟨H.pick [4,0,1],c⟩,Nat.lt_succ_self _⟩)))
  have c:=zM l c
  exact (xE (yK (yK (yR (zF (meet ⟨(),zK,⟨H.pick [0,1],c⟩⟩))))))
 rintro _ ρ ar ⟨H,c⟩
 have c:=wE v c
 refine zB fun au ac=>zA<| zI (i6 (-1))<| RN ac ?_
 obtain rfl:=gG c
 refine (zX (gV (v1:=i6 (-1)) rfl rfl ?_))
 exact ⟨rfl,H.pick [0]⟩
theorem Fdfw (h:List Track)(p1c0:Track)(v1:Value)(d:Nat)(f:Value)(r:Bool)(c:Fdf h p1c0=some r)(O S:List Nat)(w:World)(H:Hd O w w S [.blk d [sb p1c0.Name,i6 p1c0.Series.Den,f,i6 p1c0.Long] 92,f1 fF v1 h,f1 fM f p1c0.Series.Samples]):
  Cl 112 [v1,.func (.func 113) #[] #[gX d]] w fun e j=>e= .returned (.bool r)∧Hd O w j S [.blk d [sb p1c0.Name,i6 p1c0.Series.Den,f,i6 p1c0.Long] 92]:=by
 unfold Fdf at c
 refine CW 9 Tryz.func112 ?_
 refine zB fun q k=>zA<| zI (.bool false)<| RN k<| zB fun s l=>zA<| zH v1<| zH (.func (.func 113) #[] #[gX d]) ?_
 obtain ⟨m,n,c⟩:=zC c
 refine yB rfl rfl (zY en139 rfl) (Fbsw h p1c0 v1 d f _ n _ _ _ (H.enter [0] [1,2])) ?_
 rintro _ t ⟨rfl,o⟩
 have H:Hd _ _ _ _ [_,_,_]:=H.back [0] [1,2] rfl o
 refine ⟨_,rfl,?_⟩
 obtain ⟨i,p,c⟩:=zD c
 refine zG (zO (aN (a:=m) (b:=0) rfl rfl) p)<| zI (.bool i)<| RN l ?_
 obtain rfl:=gG c
 refine (zX (gV (v1:= .bool i) rfl rfl ?_))
 exact ⟨rfl,H.pick [2]⟩
theorem Fatw (d:Int)(f:Int)(h:Int)(r:Bool)(c:Fat d f h=some r)(O S:List Nat)(w:World)(H:Hd O w w S []):
  Cl 158 [i6 d,i6 f,i6 h] w fun e l=>e= .returned (.bool r)∧Hd O w l S []:=by
 unfold Fat at c
 refine CW 15 Tryz.func158 ?_
 refine zB fun s m=>zA<| zI (.bool false)<| RN m ?_
 obtain ⟨j,c,n⟩:=zC c
 refine yG [6,7,8,9,10,11,12,13,14] (fun (g:Unit)=>[(6,.bool j)]) (fun g wl=>Hd O w wl S []) ?_ ?_
 ·skip
  refine zA ?_
  refine zH (i6 d)<| zH (i6 f) ?_
  obtain ⟨o,p,c⟩:=zD c
  refine zG (zO (aN (a:=d) (b:=f) rfl rfl) p)<| yO (b:=o) rfl rfl rfl (fun i=>?_) (fun i=>?_)
  ·have c:=zN i c
   refine zH (i6 d)<| zH (i6 h) ?_
   obtain ⟨k,q,c⟩:=zD c
   refine zG (zO (pO (a:=d) (b:=h) rfl rfl) q)<| zG (yL (v:= .bool k) rfl rfl)<| zI (.bool k) ?_
   obtain rfl:=gG c
   exact (zT (zF (meet ⟨(),(zJ rfl zK),H.pick []⟩)))
  have c:=zM i c
  refine yE ?_
  refine yE ?_
  refine yE ?_
  refine zG (yF (v:= .bool false) rfl rfl)<| zI (.bool false) ?_
  obtain rfl:=gG c
  exact (zT (zF (meet ⟨(),(zJ rfl zK),H.pick []⟩)))
 rintro _ ρ t H
 have c:=n
 obtain rfl:=gG c
 refine (zX (gV (v1:= .bool j) rfl rfl ?_))
 exact ⟨rfl,H.pick []⟩
set_option maxRecDepth 100000 in
theorem Fcsw (h:Series)(v1:Value)(r:Int×Int)(c:Fcs h=some r)(O S:List Nat)(w:World)(H:Hd O w w S [f1 fM v1 h.Samples]):
  Cl 140 [.agg [i6 h.Den,v1].toArray] w fun e B=>e= .returned (.tuple #[i6 r.1,i6 r.2])∧Hd O w B S []:=by
 unfold Fcs at c
 refine CW 67 Tryz.func140 ?_
 refine zB fun K3 R=>zA<| yP rfl rfl (xJ (cs:=[i6 h.Den,v1]) rfl H) ?_
 rintro _ w6 ⟨j,rfl,H⟩
 refine zI (i6 0)<| zI (i6 0)<| RN R<| zB fun ci T=>zB fun cj U=>zA<| zG (fa90_0 rfl)<| Ld fG H 1 0 rfl rfl ?_
 have V:=H
 obtain ⟨X,Y,c⟩:=zC c
 refine yB rfl rfl (zY aPy rfl) (Fatw h.Den 1 1000000 _ Y _ _ _ (H.enter [] [])) ?_
 rintro _ ck ⟨rfl,Z⟩
 have H:=V.step (Z.only:Only [] _ _)
 refine ⟨_,rfl,?_⟩
 obtain ⟨aa,ab,c⟩:=zD c
 refine zG (zO (xX (p:=X) rfl) ab)<| RN U<| zW (b:=aa) rfl (fun k=>?_) (fun k=>?_)
 ·have c:=zN k c
  refine zB fun cl ac=>zA<| zI (i6 (-1))<| zI (i6 9)<| RN ac ?_
  obtain rfl:=gG c
  refine (zX (zQ (mW (v1:=i6 (-1)) (v2:=i6 9) rfl rfl rfl ?_)))
  exact ⟨rfl,H.pick []⟩
 have c:=zM k c
 refine zZ (zF (T _ _ ?_))
 refine zB fun cm ad=>?_
 refine zB fun cn ae=>zA<| zG (nZ rfl)<| Ld uX H 1 1 rfl rfl ?_
 obtain ⟨af,ag,c⟩:=zD c
 obtain ⟨cp,cq,ah⟩:=SlF.len ((H.item (i:=0) rfl))
 refine zG (yH (yZ u88 ah) (congrArg (Value.int .i64) ag)) ?_
 obtain ⟨ai,aj,c⟩:=zD c
 refine zG (zO (cZ (a:=af) (b:=20000) rfl rfl) aj)<| RN ae<| zW (b:=ai) rfl (fun l=>?_) (fun l=>?_)
 ·have c:=zN l c
  refine zB fun cr ak=>zA<| zI (i6 (-1))<| zI (i6 3)<| RN ak ?_
  obtain rfl:=gG c
  refine (zX (zQ (mW (v1:=i6 (-1)) (v2:=i6 3) rfl rfl rfl ?_)))
  exact ⟨rfl,H.pick []⟩
 have c:=zM l c
 refine zZ (zF (ad _ _ ?_))
 obtain ⟨al,am,c⟩:=xW c
 refine yG [2,3,4,5,14,15,16,17,18,19,20,21,22,23,24,25,26,27,28,29,30,31,32,33,34,35,36,37,38,39,40,41,42,43,44,45,46,47,48,49,50,51,52,53,54,55,56,57,58,59,60,61,62,63,64,65,66] (fun (g:Unit)=>[]) (fun g wl=>Hd O w wl S []∧al ()=some r) ?_ ?_
 ·skip
  refine zB fun ct an=>zA<| zG (nZ rfl)<| Ld uX H 1 1 rfl rfl ?_
  obtain ⟨ao,ap,c⟩:=zD c
  obtain ⟨cu,cv,aq⟩:=SlF.len ((H.item (i:=0) rfl))
  refine zG (yH (yZ u88 aq) (congrArg (Value.int .i64) ap))<| zH (i6 0)<| RN an<| yD ?_
  unfold Fdr at c
  obtain ⟨ar,C,au,c⟩:=yQ c
  refine xA [2,3,4,5,17,18,19,20,21,22,23,24,25,26,27,28,29,30,31,32,33,34,35,36,37,38,39,40,41,42,43,44,45,46,47,48,49,50,51,52,53,54,55,56,57,58,59,60,61,62,63,64,65,66] (fun (g:Nat×Int)=>[(17,i6 g.2)]) (fun g wl=>Hd O w wl S [f1 fM v1 h.Samples,.blk j [i6 h.Den,v1] 90]∧fV ar g.1 g.2=some r) (fun g=>g.1) (C,0) (zJ rfl zK) ⟨H.pick [0,1],c⟩ ?_
  clear H c
  rintro ⟨C,f⟩ ρ cw ⟨H,c⟩
  obtain ⟨av,rfl,c⟩:=yT c
  have c:=yV au c
  refine zB fun cx aw=>zA ?_
  obtain ⟨ax,ay,c⟩:=zD c
  refine zG (zO (xH (a:=f) (b:=ao) rfl rfl) ay)<| RN aw<| zB fun cy az=>zW (b:=ax) rfl (fun m=>?_) (fun m=>?_)
  ·have c:=zN m c
   refine zZ (zF (az _ _ ?_))
   refine zB fun cz a0=>?_
   refine yD ?_
   refine zB fun c0 a1=>zA<| zH (i6 f) ?_
   obtain ⟨d,n,c⟩:=zC c
   obtain ⟨D,E,c1,c2,a2,a3,a4,a5,a6⟩:=wJ (H.item (i:=0) rfl) n
   obtain rfl:=dY a3
   have H:=H.fz (.at D (E+f.toNat * 3) _) ⟨a4,a5,a6⟩
   refine zG (yS u88 mZ a2 rfl (zU n).1 (zU n).2.1 rfl rfl)<| zG (yH (yI (cs:=[i6 d.At,i6 d.N,i6 d.Mark]) aAl rfl mZ rfl (H.item (i:=2) rfl).2.2) rfl)<| yP rfl rfl (xI aFw H) ?_
   rintro _ c3 ⟨o,rfl,H⟩
   refine zI (i6 f)<| yX rfl (yU (vs:=[i6 d.At,i6 d.N,i6 d.Mark]) H 3 rfl mZ rfl rfl rfl ⟨rfl,rfl,rfl,trivial⟩ rfl) ?_
   rintro c4 H
   refine RN a1<| yD ?_
   obtain ⟨F,c,a7⟩:=zC c
   refine yG [22,23,24,25,26,27,28,29,30,31,32,33,34,35,36,37,38] (fun (g:Unit)=>[(22,.bool F)]) (fun g wl=>Hd O w wl S [f1 fM v1 h.Samples,.blk j [i6 h.Den,v1] 90,.blk o [i6 d.At,i6 d.N,i6 d.Mark] 94]) ?_ ?_
   ·skip
    refine zA ?_
    refine zG (aFc rfl)<| Ld fG H 3 0 rfl rfl ?_
    have a8:=H
    obtain ⟨a9,ba,c⟩:=zC c
    refine yB rfl rfl (zY aPy rfl) (Fatw d.At 0 1099511627776 _ ba _ _ _ (H.enter [] [])) ?_
    rintro _ c5 ⟨rfl,bb⟩
    have H:=a8.step (bb.only:Only [] _ _)
    refine ⟨_,rfl,?_⟩
    obtain ⟨bc,bd,c⟩:=zD c
    refine zG (zO (xX (p:=a9) rfl) bd) ?_
    obtain ⟨G,c,be⟩:=zC c
    refine dO 6 [27,28,29,30,31,32] [(32,.bool G)] (fun wl=>Hd O w wl S [f1 fM v1 h.Samples,.blk j [i6 h.Den,v1] 90,.fz (.at D (E+f.toNat * 3) [i6 d.At,i6 d.N,i6 d.Mark]),.blk o [i6 d.At,i6 d.N,i6 d.Mark] 94]) ?_ ?_
    ·skip
     refine yO (b:=bc) rfl rfl rfl (fun q=>?_) (fun q=>?_)
     ·have c:=zN q c
      refine yE ?_
      refine yE ?_
      refine yE ?_
      refine yE ?_
      refine zG (yL (v:= .bool true) rfl rfl) ?_
      obtain rfl:=gG c
      exact zT (zF (meet ⟨(zJ rfl zK),H.pick [0,1,2,3]⟩))
     have c:=zM q c
     refine zG (aEj rfl)<| Ld fG H 3 1 rfl rfl ?_
     have bf:=H
     obtain ⟨bg,bh,c⟩:=zC c
     refine yB rfl rfl (zY aPy rfl) (Fatw d.N (-1125899906842624) 1125899906842624 _ bh _ _ _ (H.enter [] [])) ?_
     rintro _ c6 ⟨rfl,bi⟩
     have H:=bf.step (bi.only:Only [] _ _)
     refine ⟨_,rfl,?_⟩
     obtain ⟨bj,bk,c⟩:=zD c
     refine zG (zO (xX (p:=bg) rfl) bk)<| zG (yF (v:= .bool bj) rfl rfl) ?_
     obtain rfl:=gG c
     exact zT (zF (meet ⟨(zJ rfl zK),H.pick [0,1,2,3]⟩))
    rintro ρ c7 H
    have c:=be
    refine yO (b:=G) rfl rfl rfl (fun s=>?_) (fun s=>?_)
    ·have c:=zN s c
     refine yE ?_
     refine yE ?_
     refine yE ?_
     refine yE ?_
     refine zG (yL (v:= .bool true) rfl rfl)<| zI (.bool true) ?_
     obtain rfl:=gG c
     exact (zT (zF (meet ⟨(),(zJ rfl zK),H.pick [0,1,3]⟩)))
    have c:=zM s c
    refine zG (aJq rfl)<| Ld fG H 3 2 rfl rfl ?_
    have bl:=H
    obtain ⟨bm,bn,c⟩:=zC c
    refine yB rfl rfl (zY aPy rfl) (Fatw d.Mark 0 4 _ bn _ _ _ (H.enter [] [])) ?_
    rintro _ c8 ⟨rfl,bo⟩
    have H:=bl.step (bo.only:Only [] _ _)
    refine ⟨_,rfl,?_⟩
    obtain ⟨I,bp,c⟩:=zD c
    refine zG (zO (xX (p:=bm) rfl) bp)<| zG (yF (v:= .bool I) rfl rfl)<| zI (.bool I) ?_
    obtain rfl:=gG c
    exact (zT (zF (meet ⟨(),(zJ rfl zK),H.pick [0,1,3]⟩)))
   rintro _ ρ c9 H
   have c:=a7
   refine zW (b:=F) rfl (fun t=>?_) (fun t=>?_)
   ·have c:=zN t c
    refine zB fun da bq=>zA<| zH (i6 f)<| zI (i6 f)<| zI (i6 9)<| RN bq ?_
    obtain rfl:=gG c
    refine (zX (yA (yA (zQ (zQ (yA (zQ (mW (v1:=i6 f) (v2:=i6 9) rfl rfl rfl ?_))))))))
    exact ⟨rfl,H.pick []⟩
   have c:=zM t c
   obtain ⟨J,c,br⟩:=zC c
   refine yG [40,41,42,43,44,45,46,47,48] (fun (g:Unit)=>[(40,.bool J)]) (fun g wl=>Hd O w wl S [f1 fM v1 h.Samples,.blk j [i6 h.Den,v1] 90,.blk o [i6 d.At,i6 d.N,i6 d.Mark] 94]) ?_ ?_
   ·skip
    refine zA ?_
    refine zG (aEj rfl)<| Ld fG H 2 1 rfl rfl ?_
    obtain ⟨bt,bu,c⟩:=zD c
    refine zG (zO (eX (a:=d.N) (b:=0) rfl rfl) bu)<| yO (b:=bt) rfl rfl rfl (fun u=>?_) (fun u=>?_)
    ·have c:=zN u c
     refine zG (aJq rfl)<| Ld fG H 2 2 rfl rfl ?_
     obtain ⟨K,bv,c⟩:=zD c
     refine zG (zO (pO (a:=d.Mark) (b:=1) rfl rfl) bv)<| zG (yL (v:= .bool K) rfl rfl)<| zI (.bool K) ?_
     obtain rfl:=gG c
     exact (zT (zF (meet ⟨(),(zJ rfl zK),H.pick [0,1,2]⟩)))
    have c:=zM u c
    refine yE ?_
    refine yE ?_
    refine yE ?_
    refine zG (yF (v:= .bool false) rfl rfl)<| zI (.bool false) ?_
    obtain rfl:=gG c
    exact (zT (zF (meet ⟨(),(zJ rfl zK),H.pick [0,1,2]⟩)))
   rintro _ ρ db H
   have c:=br
   refine zW (b:=J) rfl (fun x=>?_) (fun x=>?_)
   ·have c:=zN x c
    refine zB fun dc bw=>zA<| zH (i6 f)<| zI (i6 f)<| zI (i6 2)<| RN bw ?_
    obtain rfl:=gG c
    refine (zX (yA (yA (zQ (zQ (yA (zQ (mW (v1:=i6 f) (v2:=i6 2) rfl rfl rfl ?_))))))))
    exact ⟨rfl,H.pick []⟩
   have c:=zM x c
   obtain ⟨L,c,bx⟩:=zC c
   refine yG [50,51,52,53,54,55,56,57,58,59,60,61,62,63,64] (fun (g:Unit)=>[(50,.bool L)]) (fun g wl=>Hd O w wl S [f1 fM v1 h.Samples,.blk j [i6 h.Den,v1] 90]) ?_ ?_
   ·skip
    have M:=H
    have H:=H.rebase
    have dd:=H
    refine wH H [0,1,2,3,4,5,6,7,8,9,10,11,12,13,14] (kz [0,0,0,0,1,0,1,0,0,0,0,1,0,0,0]) mixed ?_
    refine XM (i6 f) ?_
    obtain ⟨bz,b0,c⟩:=zD c
    refine XP (fun _ _=>zO (cZ (a:=f) (b:=0) rfl rfl) b0)<| MxM.XL_splitb (b:=bz) rfl rfl rfl rfl (fun y=>?_) (fun y=>?_)
    ·have c:=zN y c
     refine XP (fun _ _=>aFc rfl)<| XR fG H 2 0 rfl rfl<| XP (fun _ _=>nZ rfl)<| XR uX H 1 1 rfl rfl<| XM (i6 f) ?_
     obtain ⟨b1,b2,c⟩:=zD c
     refine XP (fun _ _=>kX (a:=f) (b:=1) rfl rfl b2) ?_
     obtain ⟨b3,z,c⟩:=zC c
     obtain ⟨b4,b5,de,df,b6,b7,b8,b9,ca⟩:=wJ (H.item (i:=0) rfl) z
     obtain rfl:=dY b7
     have H:=H.fz (.at b4 (b5+b1.toNat * 3) _) ⟨b8,b9,ca⟩
     refine XP (fun _ _=>yS u88 mZ b6 rfl (zU z).1 (zU z).2.1 rfl rfl)<| XP (fun _ _=>aFc rfl)<| MxM.XL_read oS rfl rfl rfl (fun B cb=>xG fG rfl (Cells.get ((H.sees cb).item (i:=3) rfl).2.2 (i:=0) rfl)) ?_
     obtain ⟨P,cc,c⟩:=zD c
     refine XP (fun _ _=>zO (pO (a:=d.At) (b:=b3.At) rfl rfl) cc)<| XP (fun _ _=>yL (v:= .bool P) rfl rfl)<| XP (fun _ _=>xB (v:= .bool P) rfl)<| MxM.xO fun dg hS=>?_
     have H:=H.sees hS
     have H:=M.rejoin H
     obtain rfl:=gG c
     exact (zF (meet ⟨(),(zJ rfl zK),H.pick [0,1]⟩))
    have c:=zM y c
    refine XO<| MxM.XL_offr oS rfl rfl rfl ?_
    refine XO<| MxM.XL_offr oS rfl rfl rfl ?_
    refine XO<| XO<| XO<| XO<| MxM.XL_offr oS rfl rfl rfl ?_
    refine XO<| XP (fun _ _=>yF (v:= .bool false) rfl rfl)<| XP (fun _ _=>xB (v:= .bool false) rfl)<| MxM.xO fun dh hS=>?_
    have H:=H.sees hS
    have H:=M.rejoin H
    obtain rfl:=gG c
    exact (zF (meet ⟨(),(zJ rfl zK),H.pick [0,1]⟩))
   rintro _ ρ di H
   have c:=bx
   refine zW (b:=L) rfl (fun A=>?_) (fun A=>?_)
   ·have c:=zN A c
    refine zB fun dj cd=>zA<| zH (i6 f)<| zI (i6 f)<| zI (i6 10)<| RN cd ?_
    obtain rfl:=gG c
    refine (zX (yA (yA (zQ (zQ (yA (zQ (mW (v1:=i6 f) (v2:=i6 10) rfl rfl rfl ?_))))))))
    exact ⟨rfl,H.pick []⟩
   have c:=zM A c
   refine (zZ (yJ (yJ (zF (a0 _ _ ?_)))))
   refine zA ?_
   obtain ⟨Q,ce,c⟩:=zD c
   refine zG (xC (a:=f) (b:=1) rfl rfl ce)<| zH (i6 Q) ?_
   exact (zT (zF (meet ⟨(av,Q),(zJ rfl zK),⟨H.pick [0,1],c⟩,Nat.lt_succ_self _⟩)))
  have c:=zM m c
  exact (xE (yK (yK (yR (zF (meet ⟨(),zK,⟨H.pick [],c⟩⟩))))))
 rintro _ ρ dk ⟨H,c⟩
 have c:=wE am c
 refine zB fun dl cf=>zA<| zI (i6 (-1))<| zI (i6 0)<| RN cf ?_
 obtain rfl:=gG c
 refine (zX (mW (v1:=i6 (-1)) (v2:=i6 0) rfl rfl rfl ?_))
 exact ⟨rfl,H.pick []⟩
theorem Fbtw (a:Series)(v1:Value)(r:Int)(c:Fbt a=some r)(O S:List Nat)(w:World)(H:Hd O w w S [f1 fM v1 a.Samples]):
  Cl 114 [.agg [i6 a.Den,v1].toArray] w fun e f=>e= .returned (i6 r)∧Hd O w f S []:=by
 unfold Fbt at c
 refine CW 11 Tryz.func114 ?_
 refine zB fun n h=>zA<| yP rfl rfl (xJ (cs:=[i6 a.Den,v1]) rfl H) ?_
 rintro _ o ⟨p,rfl,H⟩
 refine zI (i6 0)<| RN h<| zB fun q i=>zA<| zG (yH (yI (cs:=[i6 a.Den,v1]) aKa rfl sz90 rfl (Hbc H 1 rfl)) rfl) ?_
 have j:=H
 obtain ⟨⟨d,b⟩,k,c⟩:=zC c
 refine yB rfl rfl (zY en140 rfl) (Fcsw a v1 _ k _ _ _ (H.enter [] [0])) ?_
 rintro _ s ⟨rfl,l⟩
 have H:=j.step (l.only:Only [] _ _)
 refine ⟨_,rfl,?_⟩
 refine zH (.tuple #[i6 d,i6 b])<| zG (xU (v:=i6 d) rfl rfl)<| zG (xU (v:=i6 b) rfl rfl)<| zI (i6 d)<| zI (i6 b)<| RN i<| zB fun t m=>zA<| zH (i6 b)<| zI (i6 b)<| RN m ?_
 obtain rfl:=gG c
 refine (zX (gV (v1:=i6 b) rfl rfl ?_))
 exact ⟨rfl,H.pick []⟩
end Go.Proofs.YthllgjnlmjpinaaGreatDoor.L
