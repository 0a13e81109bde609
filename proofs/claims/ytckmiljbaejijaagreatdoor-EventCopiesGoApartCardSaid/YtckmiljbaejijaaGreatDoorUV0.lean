/- Walks: what each function computes, for every argument; no condition but those that stand in the statements. -/
import Derived.Test.YtckmiljbaejijaaGreatDoorRows
import Derived.Test.YtckmiljbaejijaaGreatDoorUP
import Derived.Test.YtckmiljbaejijaaGreatDoorXVc
import Derived.Test.YtckmiljbaejijaaGreatDoorXVs
import Derived.Test.YtckmiljbaejijaaGreatDoorLfS
namespace Go.Proofs.YtckmiljbaejijaaGreatDoor.L
open Go.RowKit Go.OB Go.Lf
set_option maxHeartbeats 4000000
abbrev Cl (f:Nat)(a:List Value)(w:World)(R:Ending→World→Prop):Prop:=Calls Tryz.prog f a.toArray w R
abbrev i6 (n:Int):Value:= .int .i64 n
abbrev sb (s:Str):Value:= .string (bs s)
abbrev f1 {α:Type}(r:Rp α)(v:Value)(l:List α):Th:= .fz (.sl r v l)
theorem Hbc {O S:List Nat}{a w:World}{l:List Th}{b:Nat}{T:TypeId}{cs:List Value}(H:Hd O a w S l)(i:Nat)(h:l[i]? =some (.blk b cs T)):Cells w ⟨b,0,none⟩ cs:=Blk.cells (H.item h)
theorem Hbg {O S:List Nat}{a w:World}{l:List Th}{b:Nat}{T:TypeId}{cs:List Value}{v:Value}(H:Hd O a w S l)(i j:Nat)(h:l[i]? =some (.blk b cs T))(c:cs[j]? =some v):w.cell? ⟨b,0+j,none⟩=some v:=Cells.get (Blk.cells (H.item h)) c
theorem XP {P:Program}{I:World→Prop}{N:Nat}{ops:Array Oper}{κ:List MxM.Kd}{K:MxM.Mm→Env→World→Prop}{k:Nat}{M:MxM.Mm}{σ:List Nat}{rest:List Oper}{ρ:Env}{w:World}{d:Nat}{ty:TypeId}{pos:String}{af:Array Edge}{g:Option (Nat×Bool)}{v:Value}{op:Op}(h: ∀a,I a→Do P ⟨some d,op,ty,pos,af,g⟩ ρ a v a)(n:MxM.XL P I N ops κ K M σ rest (upd ρ d v) w)(hk:MxM.kdOf κ k= .pure:=by exact rfl)(hw:eX N ops ρ ⟨some d,op,ty,pos,af,g⟩=true:=by exact rfl)(hd:Nat.blt d N=true:=by exact rfl):MxM.XL P I N ops κ K M (k :: σ) (⟨some d,op,ty,pos,af,g⟩ :: rest) ρ w:=MxM.XL_pure hk hw hd h n
theorem XO {P:Program}{I:World→Prop}{N:Nat}{ops:Array Oper}{κ:List MxM.Kd}{K:MxM.Mm→Env→World→Prop}{k:Nat}{M:MxM.Mm}{σ:List Nat}{rest:List Oper}{ρ:Env}{w:World}{d:Nat}{ty:TypeId}{pos:String}{af:Array Edge}{g:Option (Nat×Bool)}{op:Op}(n:MxM.XL P I N ops κ K M σ rest (upd ρ d undef) w)(hk:MxM.kdOf κ k= .pure:=by exact rfl)(hw:eX N ops ρ ⟨some d,op,ty,pos,af,g⟩=false:=by exact rfl)(hd:Nat.blt d N=true:=by exact rfl):MxM.XL P I N ops κ K M (k :: σ) (⟨some d,op,ty,pos,af,g⟩ :: rest) ρ w:=MxM.XL_offp hk hw hd n
theorem XM {P:Program}{I:World→Prop}{N:Nat}{ops:Array Oper}{κ:List MxM.Kd}{K:MxM.Mm→Env→World→Prop}{k:Nat}{M:MxM.Mm}{σ:List Nat}{rest:List Oper}{ρ:Env}{w:World}{d:Nat}{ty:TypeId}{pos:String}{af:Array Edge}{g:Option (Nat×Bool)}{x:Operand}(v:Value)(n:MxM.XL P I N ops κ K M σ rest (upd ρ d v) w)(hx:ev ρ x=v:=by exact rfl)(hk:MxM.kdOf κ k= .pure:=by exact rfl)(hw:eX N ops ρ ⟨some d,.move x,ty,pos,af,g⟩=true:=by exact rfl)(hd:Nat.blt d N=true:=by exact rfl):MxM.XL P I N ops κ K M (k :: σ) (⟨some d,.move x,ty,pos,af,g⟩ :: rest) ρ w:=MxM.XL_pure hk hw hd (fun _ _=>aV hx) n
theorem XR {P:Program}{c:World}{e:List Nat}{N:Nat}{ops:Array Oper}{κ:List MxM.Kd}{K:MxM.Mm→Env→World→Prop}{k:Nat}{M:MxM.Mm}{σ:List Nat}{rest:List Oper}{ρ:Env}{w:World}{d:Nat}{ty:TypeId}{pos:String}{af:Array Edge}{g:Option (Nat×Bool)}{t:TypeId}{x:Operand}{O S:List Nat}{f:World}{l:List Th}{b:Nat}{T:TypeId}{cs:List Value}{v:Value}(o:dX P t)(H:Hd O f w S l)(i j:Nat)(h:l[i]? =some (.blk b cs T))(m:cs[j]? =some v)(n:MxM.XL P (fun a=>Only e c a) N ops κ K M σ rest (upd ρ d v) w)(hx:ev ρ x= .pointer (some ⟨b,0+j,none⟩):=by exact rfl)(hk:MxM.kdOf κ k= .read:=by exact rfl)(hw:eX N ops ρ ⟨some d,.load t x,ty,pos,af,g⟩=true:=by exact rfl)(hd:Nat.blt d N=true:=by exact rfl):MxM.XL P (fun a=>Only e c a) N ops κ K M (k :: σ) (⟨some d,.load t x,ty,pos,af,g⟩ :: rest) ρ w:=MxM.XL_read oS hk hw hd (fun a p=>xA o hx (Hbg (H.sees p) i j h m)) n
theorem Ld {P:Program}{N:Nat}{ops:Array Oper}{Q:Exit→Env→World→Prop}{rest:List Oper}{ρ:Env}{w:World}{d:Nat}{t ty:TypeId}{x:Operand}{pos:String}{af:Array Edge}{g:Option (Nat×Bool)}{O S:List Nat}{a:World}{l:List Th}{b:Nat}{T:TypeId}{cs:List Value}{v:Value}(o:dX P t)(H:Hd O a w S l)(i j:Nat)(h:l[i]? =some (.blk b cs T))(c:cs[j]? =some v)(k:RL P N ops Q rest (upd ρ d v) w)(hx:ev ρ x= .pointer (some ⟨b,0+j,none⟩):=by exact rfl)(hw:eX N ops ρ ⟨some d,.load t x,ty,pos,af,g⟩=true:=by exact rfl)(hd:Nat.blt d N=true:=by exact rfl):RL P N ops Q (⟨some d,.load t x,ty,pos,af,g⟩ :: rest) ρ w:=zH (xA o hx (Hbg H i j h c)) k hw hd
theorem fV {f:FuncId}{fn:Func}(h:Tryz.prog.funcs[f]? =some fn)(a:fn.body.isSome=true:=by exact rfl)(b:(fn.name== "runtime.NumGoroutine")=false:=by kernel_rfl):Go.OB.Enters Tryz.prog f:=⟨_,h,a,b⟩
theorem u2:Tryz.prog.underlying 2=some (.int .i64):=Tryz.underlying2
theorem u3:Tryz.prog.underlying 3=some (.int .i64):=Tryz.underlying3
theorem u4:Tryz.prog.underlying 4=some .bool:=Tryz.underlying4
theorem u5:Tryz.prog.underlying 5=some (.int .u8):=Tryz.underlying5
theorem u9:Tryz.prog.underlying 9=some .string:=Tryz.underlying9
theorem u22:Tryz.prog.underlying 22=some (.slice 9):=Tryz.underlying22
theorem u23:Tryz.prog.underlying 23=some (.slice 122):=Tryz.underlying23
theorem u24:Tryz.prog.underlying 24=some (.slice 95):=Tryz.underlying24
theorem u27:Tryz.prog.underlying 27=some (.slice 37):=Tryz.underlying27
theorem u28:Tryz.prog.underlying 28=some (.slice 38):=Tryz.underlying28
theorem u33:Tryz.prog.underlying 33=some (.slice 40):=Tryz.underlying33
theorem u38:Tryz.prog.underlying 38=some (.slice 3):=Tryz.underlying38
theorem u55:Tryz.prog.underlying 55=some (.slice 148):=Tryz.underlying55
theorem u61:Tryz.prog.underlying 61=some (.slice 5):=Tryz.underlying61
theorem u68:Tryz.prog.underlying 68=some (.slice 70):=Tryz.underlying68
theorem u79:Tryz.prog.underlying 79=some (.slice 55):=Tryz.underlying79
theorem u142:Tryz.prog.underlying 142=some (.slice 172):=Tryz.underlying142
theorem u143:Tryz.prog.underlying 143=some (.slice 170):=Tryz.underlying143
theorem u144:Tryz.prog.underlying 144=some (.slice 4):=Tryz.underlying144
theorem u163:Tryz.prog.underlying 163=some (.map 9 3):=Tryz.underlying163
theorem u209:Tryz.prog.underlying 209=some (.array 7 9):=Tryz.underlying209
theorem u243:Tryz.prog.underlying 243=some (.array 3 3):=Tryz.underlying243
theorem u297:Tryz.prog.underlying 297=some (.int .u64):=Tryz.underlying297
theorem fo107_2:fieldOf Tryz.prog 107 2=some (2,3):=by kernel_rfl
theorem fo107_3:fieldOf Tryz.prog 107 3=some (3,9):=by kernel_rfl
theorem ui131:Tryz.prog.underlying 131=some (.interface (Tryz.prog.methodsAt 131)):=by kernel_rfl
theorem sz3:Sz Tryz.prog 3 1:=by unfold Sz; kernel_rfl
theorem sz4:Sz Tryz.prog 4 1:=by unfold Sz; kernel_rfl
theorem sz9:Sz Tryz.prog 9 1:=by unfold Sz; kernel_rfl
theorem sz22:Sz Tryz.prog 22 1:=by unfold Sz; kernel_rfl
theorem sz24:Sz Tryz.prog 24 1:=by unfold Sz; kernel_rfl
theorem sz26:Sz Tryz.prog 26 3:=by unfold Sz; kernel_rfl
theorem sz35:Sz Tryz.prog 35 2:=by unfold Sz; kernel_rfl
theorem sz37:Sz Tryz.prog 37 4:=by unfold Sz; kernel_rfl
theorem sz38:Sz Tryz.prog 38 1:=by unfold Sz; kernel_rfl
theorem sz40:Sz Tryz.prog 40 3:=by unfold Sz; kernel_rfl
theorem sz48:Sz Tryz.prog 48 1:=by unfold Sz; kernel_rfl
theorem sz55:Sz Tryz.prog 55 1:=by unfold Sz; kernel_rfl
theorem sz61:Sz Tryz.prog 61 1:=by unfold Sz; kernel_rfl
theorem dB:Sz Tryz.prog 70 7:=by unfold Sz; kernel_rfl
theorem sz95:Sz Tryz.prog 95 8:=by unfold Sz; kernel_rfl
theorem sz107:Sz Tryz.prog 107 4:=by unfold Sz; kernel_rfl
theorem sz111:Sz Tryz.prog 111 2:=by unfold Sz; kernel_rfl
theorem sz122:Sz Tryz.prog 122 9:=by unfold Sz; kernel_rfl
theorem sz142:Sz Tryz.prog 142 1:=by unfold Sz; kernel_rfl
theorem sz143:Sz Tryz.prog 143 1:=by unfold Sz; kernel_rfl
theorem sz144:Sz Tryz.prog 144 1:=by unfold Sz; kernel_rfl
theorem sz148:Sz Tryz.prog 148 2:=by unfold Sz; kernel_rfl
theorem sz170:Sz Tryz.prog 170 1:=by unfold Sz; kernel_rfl
theorem sz172:Sz Tryz.prog 172 3:=by unfold Sz; kernel_rfl
theorem kC:Sz Tryz.prog 226 7:=by unfold Sz; kernel_rfl
theorem sz241:Sz Tryz.prog 241 4:=by unfold Sz; kernel_rfl
theorem sz243:Sz Tryz.prog 243 3:=by unfold Sz; kernel_rfl
theorem sz245:Sz Tryz.prog 245 7:=by unfold Sz; kernel_rfl
theorem sz255:Sz Tryz.prog 255 4:=by unfold Sz; kernel_rfl
theorem sz258:Sz Tryz.prog 258 3:=by unfold Sz; kernel_rfl
theorem sz277:Sz Tryz.prog 277 1:=by unfold Sz; kernel_rfl
theorem sz279:Sz Tryz.prog 279 3:=by unfold Sz; kernel_rfl
theorem sz281:Sz Tryz.prog 281 5:=by unfold Sz; kernel_rfl
theorem sz283:Sz Tryz.prog 283 1:=by unfold Sz; kernel_rfl
theorem sz285:Sz Tryz.prog 285 1:=by unfold Sz; kernel_rfl
theorem fU:dX Tryz.prog 3:=by unfold dX; kernel_rfl
theorem one4:dX Tryz.prog 4:=by unfold dX; kernel_rfl
theorem bC:dX Tryz.prog 9:=by unfold dX; kernel_rfl
theorem one22:dX Tryz.prog 22:=by unfold dX; kernel_rfl
theorem one23:dX Tryz.prog 23:=by unfold dX; kernel_rfl
theorem one24:dX Tryz.prog 24:=by unfold dX; kernel_rfl
theorem one30:dX Tryz.prog 30:=by unfold dX; kernel_rfl
theorem one33:dX Tryz.prog 33:=by unfold dX; kernel_rfl
theorem one38:dX Tryz.prog 38:=by unfold dX; kernel_rfl
theorem one48:dX Tryz.prog 48:=by unfold dX; kernel_rfl
theorem one55:dX Tryz.prog 55:=by unfold dX; kernel_rfl
theorem one61:dX Tryz.prog 61:=by unfold dX; kernel_rfl
theorem one68:dX Tryz.prog 68:=by unfold dX; kernel_rfl
theorem one105:dX Tryz.prog 105:=by unfold dX; kernel_rfl
theorem one142:dX Tryz.prog 142:=by unfold dX; kernel_rfl
theorem one143:dX Tryz.prog 143:=by unfold dX; kernel_rfl
theorem one144:dX Tryz.prog 144:=by unfold dX; kernel_rfl
theorem one163:dX Tryz.prog 163:=by unfold dX; kernel_rfl
theorem bP:dX Tryz.prog 170:=by unfold dX; kernel_rfl
theorem agg26:Agg Tryz.prog 26:=by unfold Agg; kernel_rfl
theorem agg35:Agg Tryz.prog 35:=by unfold Agg; kernel_rfl
theorem agg37:Agg Tryz.prog 37:=by unfold Agg; kernel_rfl
theorem agg40:Agg Tryz.prog 40:=by unfold Agg; kernel_rfl
theorem dI:Agg Tryz.prog 70:=by unfold Agg; kernel_rfl
theorem agg95:Agg Tryz.prog 95:=by unfold Agg; kernel_rfl
theorem agg107:Agg Tryz.prog 107:=by unfold Agg; kernel_rfl
theorem agg122:Agg Tryz.prog 122:=by unfold Agg; kernel_rfl
theorem agg148:Agg Tryz.prog 148:=by unfold Agg; kernel_rfl
theorem agg172:Agg Tryz.prog 172:=by unfold Agg; kernel_rfl
theorem agg226:Agg Tryz.prog 226:=by unfold Agg; kernel_rfl
theorem agg241:Agg Tryz.prog 241:=by unfold Agg; kernel_rfl
theorem agg243:Agg Tryz.prog 243:=by unfold Agg; kernel_rfl
theorem agg245:Agg Tryz.prog 245:=by unfold Agg; kernel_rfl
theorem agg255:Agg Tryz.prog 255:=by unfold Agg; kernel_rfl
theorem agg258:Agg Tryz.prog 258:=by unfold Agg; kernel_rfl
theorem agg277:Agg Tryz.prog 277:=by unfold Agg; kernel_rfl
theorem agg279:Agg Tryz.prog 279:=by unfold Agg; kernel_rfl
theorem agg281:Agg Tryz.prog 281:=by unfold Agg; kernel_rfl
theorem agg283:Agg Tryz.prog 283:=by unfold Agg; kernel_rfl
theorem agg285:Agg Tryz.prog 285:=by unfold Agg; kernel_rfl
theorem zero3:Go.OB.Zero Tryz.prog 3 ([i6 0]):=by unfold Go.OB.Zero; kernel_rfl
theorem zero9:Go.OB.Zero Tryz.prog 9 ([.string (bs [])]):=by unfold Go.OB.Zero; kernel_rfl
theorem zero22:Go.OB.Zero Tryz.prog 22 ([.slice none 0 0]):=by unfold Go.OB.Zero; kernel_rfl
theorem zero26:Go.OB.Zero Tryz.prog 26 ([.slice none 0 0,.slice none 0 0,.slice none 0 0]):=by unfold Go.OB.Zero; kernel_rfl
theorem zero37:Go.OB.Zero Tryz.prog 37 ([.string (bs []),i6 0,.slice none 0 0,i6 0]):=by unfold Go.OB.Zero; kernel_rfl
theorem zero40:Go.OB.Zero Tryz.prog 40 ([i6 0,i6 0,i6 0]):=by unfold Go.OB.Zero; kernel_rfl
theorem zero48:Go.OB.Zero Tryz.prog 48 ([.nilFunc]):=by unfold Go.OB.Zero; kernel_rfl
theorem kF:Go.OB.Zero Tryz.prog 70 ([i6 0,.string (bs []),.string (bs []),i6 0,i6 0,i6 0,.slice none 0 0]):=by unfold Go.OB.Zero; kernel_rfl
theorem zero95:Go.OB.Zero Tryz.prog 95 ([.string (bs []),i6 0,.string (bs []),.string (bs []),i6 0,i6 0,i6 0,.slice none 0 0]):=by unfold Go.OB.Zero; kernel_rfl
theorem zero107:Go.OB.Zero Tryz.prog 107 ([i6 0,i6 0,i6 0,.string (bs [])]):=by unfold Go.OB.Zero; kernel_rfl
theorem zero111:Go.OB.Zero Tryz.prog 111 ([i6 0,i6 0]):=by unfold Go.OB.Zero; kernel_rfl
theorem zero122:Go.OB.Zero Tryz.prog 122 ([.string (bs []),.string (bs []),i6 0,.string (bs []),.string (bs []),i6 0,i6 0,i6 0,.slice none 0 0]):=by unfold Go.OB.Zero; kernel_rfl
theorem zero129:Go.OB.Zero Tryz.prog 129 ([.pointer none,.slice none 0 0]):=by unfold Go.OB.Zero; kernel_rfl
theorem zero148:Go.OB.Zero Tryz.prog 148 ([i6 0,.bool false]):=by unfold Go.OB.Zero; kernel_rfl
theorem zero172:Go.OB.Zero Tryz.prog 172 ([i6 0,i6 0,.nilIface]):=by unfold Go.OB.Zero; kernel_rfl
theorem zero226:Go.OB.Zero Tryz.prog 226 ([.bool false,.bool false,.bool false,.bool false,.bool false,i6 0,i6 0]):=by unfold Go.OB.Zero; kernel_rfl
theorem zero241:Go.OB.Zero Tryz.prog 241 ([i6 0,i6 0,i6 0,.slice none 0 0]):=by unfold Go.OB.Zero; kernel_rfl
theorem zero243:Go.OB.Zero Tryz.prog 243 ((Fl.arr 3 (Fl.int .i64)).f (Arr.rep 3 0:Arr 3 Int)):=by unfold Go.OB.Zero; kernel_rfl
theorem zero245:Go.OB.Zero Tryz.prog 245 ([.nilIface,i6 0,i6 0,.slice none 0 0,i6 0,i6 0,i6 0]):=by unfold Go.OB.Zero; kernel_rfl
theorem zero255:Go.OB.Zero Tryz.prog 255 ([.nilIface,.nilIface,i6 0,.bool false]):=by unfold Go.OB.Zero; kernel_rfl
theorem zero258:Go.OB.Zero Tryz.prog 258 ([.nilIface,i6 0,.bool false]):=by unfold Go.OB.Zero; kernel_rfl
theorem el3:El Tryz.prog 3 1 8 ([i6 0]):=⟨by kernel_rfl,by kernel_rfl,by kernel_rfl,by decide,by decide⟩
theorem el4:El Tryz.prog 4 1 1 ([.bool false]):=⟨by kernel_rfl,by kernel_rfl,by kernel_rfl,by decide,by decide⟩
theorem el5:El Tryz.prog 5 1 1 ([.int .u8 0]):=⟨by kernel_rfl,by kernel_rfl,by kernel_rfl,by decide,by decide⟩
theorem el9:El Tryz.prog 9 1 16 ([.string (bs [])]):=⟨by kernel_rfl,by kernel_rfl,by kernel_rfl,by decide,by decide⟩
theorem el38:El Tryz.prog 38 1 24 ([.slice none 0 0]):=⟨by kernel_rfl,by kernel_rfl,by kernel_rfl,by decide,by decide⟩
theorem el70:El Tryz.prog 70 7 88 ([i6 0,.string (bs []),.string (bs []),i6 0,i6 0,i6 0,.slice none 0 0]):=⟨by kernel_rfl,by kernel_rfl,by kernel_rfl,by decide,by decide⟩
theorem el95:El Tryz.prog 95 8 104 ([.string (bs []),i6 0,.string (bs []),.string (bs []),i6 0,i6 0,i6 0,.slice none 0 0]):=⟨by kernel_rfl,by kernel_rfl,by kernel_rfl,by decide,by decide⟩
theorem el148:El Tryz.prog 148 2 16 ([i6 0,.bool false]):=⟨by kernel_rfl,by kernel_rfl,by kernel_rfl,by decide,by decide⟩
theorem el170:El Tryz.prog 170 1 16 ([.nilIface]):=⟨by kernel_rfl,by kernel_rfl,by kernel_rfl,by decide,by decide⟩
theorem el172:El Tryz.prog 172 3 32 ([i6 0,i6 0,.nilIface]):=⟨by kernel_rfl,by kernel_rfl,by kernel_rfl,by decide,by decide⟩
theorem z8_5:Z8 Tryz.prog 5:=by unfold Z8; kernel_rfl
theorem bz63:Tryz.prog.built 63 []=some ([.slice none 0 0]).toArray:=by kernel_rfl
theorem bz226:Tryz.prog.built 226 []=some ([.bool false,.bool false,.bool false,.bool false,.bool false,i6 0,i6 0]).toArray:=by kernel_rfl
theorem bt70_0 (a:Int):Tryz.prog.built 70 [(0,i6 a)]=some [i6 a,.string (bs []),.string (bs []),i6 0,i6 0,i6 0,.slice none 0 0].toArray:=by kernel_rfl
theorem bt70_0_1 (a:Int)(b:Str):Tryz.prog.built 70 [(0,i6 a),(1,sb b)]=some [i6 a,sb b,.string (bs []),i6 0,i6 0,i6 0,.slice none 0 0].toArray:=by kernel_rfl
theorem bt70_0_6 (a:Int)(b:Option Addr)(c d:Nat):Tryz.prog.built 70 [(0,i6 a),(6,.slice b c d)]=some [i6 a,.string (bs []),.string (bs []),i6 0,i6 0,i6 0,.slice b c d].toArray:=by kernel_rfl
theorem bt95_0 (a:Str):Tryz.prog.built 95 [(0,sb a)]=some [sb a,i6 0,.string (bs []),.string (bs []),i6 0,i6 0,i6 0,.slice none 0 0].toArray:=by kernel_rfl
theorem bt107_0_1 (a:Int)(b:Int):Tryz.prog.built 107 [(0,i6 a),(1,i6 b)]=some [i6 a,i6 b,i6 0,.string (bs [])].toArray:=by kernel_rfl
theorem bt109_0 (a:Str):Tryz.prog.built 109 [(0,sb a)]=some [sb a,i6 0,i6 0,i6 0,i6 0,.string (bs []),.slice none 0 0,.slice none 0 0,.slice none 0 0].toArray:=by kernel_rfl
theorem bt146_0_1_4 (a:Option Addr)(b c:Nat)(d:Int)(e:Option Addr)(f h:Nat):Tryz.prog.built 146 [(0,.slice a b c),(1,i6 d),(4,.slice e f h)]=some [.slice a b c,i6 d,.slice none 0 0,.slice none 0 0,.slice e f h].toArray:=by kernel_rfl
theorem bt172_0_1_2 (a:Int)(b:Int)(a2T:TypeId)(c:Value):Tryz.prog.built 172 [(0,i6 a),(1,i6 b),(2,.iface a2T c)]=some [i6 a,i6 b,.iface a2T c].toArray:=by kernel_rfl
theorem bt215_0_2_3 (a:Option Nat)(b:Option Addr)(c d:Nat)(e:Option Nat):Tryz.prog.built 215 [(0,.map a),(2,.slice b c d),(3,.map e)]=some [.map a,.slice none 0 0,.slice b c d,.map e].toArray:=by kernel_rfl
theorem bt222_0 (a:Option Addr)(b c:Nat):Tryz.prog.built 222 [(0,.slice a b c)]=some [.slice a b c,.slice none 0 0,.slice none 0 0].toArray:=by kernel_rfl
theorem bt226_0 (a:Bool):Tryz.prog.built 226 [(0,.bool a)]=some [.bool a,.bool false,.bool false,.bool false,.bool false,i6 0,i6 0].toArray:=by kernel_rfl
theorem bt226_0_1_2 (a:Bool)(b:Bool)(c:Bool):Tryz.prog.built 226 [(0,.bool a),(1,.bool b),(2,.bool c)]=some [.bool a,.bool b,.bool c,.bool false,.bool false,i6 0,i6 0].toArray:=by kernel_rfl
theorem bt226_0_2_3 (a:Bool)(b:Bool)(c:Bool):Tryz.prog.built 226 [(0,.bool a),(2,.bool b),(3,.bool c)]=some [.bool a,.bool false,.bool b,.bool c,.bool false,i6 0,i6 0].toArray:=by kernel_rfl
theorem bt226_0_3_4 (a:Bool)(b:Bool)(c:Bool):Tryz.prog.built 226 [(0,.bool a),(3,.bool b),(4,.bool c)]=some [.bool a,.bool false,.bool false,.bool b,.bool c,i6 0,i6 0].toArray:=by kernel_rfl
theorem bt226_3_4_5_6 (a:Bool)(b:Bool)(c:Int)(d:Int):Tryz.prog.built 226 [(3,.bool a),(4,.bool b),(5,i6 c),(6,i6 d)]=some [.bool false,.bool false,.bool false,.bool a,.bool b,i6 c,i6 d].toArray:=by kernel_rfl
theorem bt226_4_5_6 (a:Bool)(b:Int)(c:Int):Tryz.prog.built 226 [(4,.bool a),(5,i6 b),(6,i6 c)]=some [.bool false,.bool false,.bool false,.bool false,.bool a,i6 b,i6 c].toArray:=by kernel_rfl
theorem bt226_5_6 (a:Int)(b:Int):Tryz.prog.built 226 [(5,i6 a),(6,i6 b)]=some [.bool false,.bool false,.bool false,.bool false,.bool false,i6 a,i6 b].toArray:=by kernel_rfl
theorem bt241_0_1_2 (a:Int)(b:Int)(c:Int):Tryz.prog.built 241 [(0,i6 a),(1,i6 b),(2,i6 c)]=some [i6 a,i6 b,i6 c,.slice none 0 0].toArray:=by kernel_rfl
theorem bt245_0_1_2 (a0T:TypeId)(a:Value)(b:Int)(c:Int):Tryz.prog.built 245 [(0,.iface a0T a),(1,i6 b),(2,i6 c)]=some [.iface a0T a,i6 b,i6 c,.slice none 0 0,i6 0,i6 0,i6 0].toArray:=by kernel_rfl
theorem bt248_0 (a0T:TypeId)(a:Value):Tryz.prog.built 248 [(0,.iface a0T a)]=some [.iface a0T a].toArray:=by kernel_rfl
theorem bt251_0_1 (a:Option Addr)(b c:Nat)(d:Bool):Tryz.prog.built 251 [(0,.slice a b c),(1,.bool d)]=some [.slice a b c,.bool d].toArray:=by kernel_rfl
theorem bt251_1 (a:Bool):Tryz.prog.built 251 [(1,.bool a)]=some [.slice none 0 0,.bool a].toArray:=by kernel_rfl
theorem bt255_0_1 (a0T:TypeId)(a:Value)(a1T:TypeId)(b:Value):Tryz.prog.built 255 [(0,.iface a0T a),(1,.iface a1T b)]=some [.iface a0T a,.iface a1T b,i6 0,.bool false].toArray:=by kernel_rfl
theorem bt258_0 (a0T:TypeId)(a:Value):Tryz.prog.built 258 [(0,.iface a0T a)]=some [.iface a0T a,i6 0,.bool false].toArray:=by kernel_rfl
theorem bt277_0 (a:Int):Tryz.prog.built 277 [(0,i6 a)]=some [i6 a].toArray:=by kernel_rfl
theorem bt279_0_1_2 (a:Int)(b:Int)(c:Int):Tryz.prog.built 279 [(0,i6 a),(1,i6 b),(2,i6 c)]=some [i6 a,i6 b,i6 c].toArray:=by kernel_rfl
theorem bt281_0_1_2_3_4 (a:Int)(b:Int)(c:Int)(d:Int)(e:Int):Tryz.prog.built 281 [(0,i6 a),(1,i6 b),(2,i6 c),(3,i6 d),(4,i6 e)]=some [i6 a,i6 b,i6 c,i6 d,i6 e].toArray:=by kernel_rfl
theorem bt283_0 (a:Int):Tryz.prog.built 283 [(0,i6 a)]=some [i6 a].toArray:=by kernel_rfl
theorem bt285_0 (a:Int):Tryz.prog.built 285 [(0,i6 a)]=some [i6 a].toArray:=by kernel_rfl
abbrev gU (b:Nat):Value:= .pointer (some ⟨b,0,none⟩)
abbrev fJ:=Rt.row fK 172 []
abbrev fG:=Rt.row gY 170 []
def FAt (t i m:Nat):Prop:= ∀{ρ:Env} {w:World} {d:Option Tmp} {x:Operand} {ty:TypeId} {pos:String} {af:Array Edge} {g:Option (Nat×Bool)} {b o:Nat} (_:ev ρ x= .pointer (some ⟨b,o,none⟩)),Do Tryz.prog ⟨d,.fieldAddr t x i,ty,pos,af,g⟩ ρ w (.pointer (some ⟨b,o+m,none⟩)) w
theorem fa26_0:FAt 26 0 0:=fun hx=>zX (n:=1) (m:=0) (by kernel_rfl) (by decide) hx
theorem fa26_1:FAt 26 1 1:=fun hx=>zX (n:=1) (m:=1) (by kernel_rfl) (by decide) hx
theorem fa26_2:FAt 26 2 2:=fun hx=>zX (n:=1) (m:=2) (by kernel_rfl) (by decide) hx
theorem fa35_0:FAt 35 0 0:=fun hx=>zX (n:=1) (m:=0) (by kernel_rfl) (by decide) hx
theorem fa35_1:FAt 35 1 1:=fun hx=>zX (n:=1) (m:=1) (by kernel_rfl) (by decide) hx
theorem fa37_0:FAt 37 0 0:=fun hx=>zX (n:=1) (m:=0) (by kernel_rfl) (by decide) hx
theorem fa37_1:FAt 37 1 1:=fun hx=>zX (n:=2) (m:=1) (by kernel_rfl) (by decide) hx
theorem fa37_2:FAt 37 2 3:=fun hx=>zX (n:=1) (m:=3) (by kernel_rfl) (by decide) hx
theorem fa40_0:FAt 40 0 0:=fun hx=>zX (n:=1) (m:=0) (by kernel_rfl) (by decide) hx
theorem fa40_1:FAt 40 1 1:=fun hx=>zX (n:=1) (m:=1) (by kernel_rfl) (by decide) hx
theorem fa40_2:FAt 40 2 2:=fun hx=>zX (n:=1) (m:=2) (by kernel_rfl) (by decide) hx
theorem fa63_0:FAt 63 0 0:=fun hx=>zX (n:=1) (m:=0) (by kernel_rfl) (by decide) hx
theorem fa70_0:FAt 70 0 0:=fun hx=>zX (n:=1) (m:=0) (by kernel_rfl) (by decide) hx
theorem fa70_1:FAt 70 1 1:=fun hx=>zX (n:=1) (m:=1) (by kernel_rfl) (by decide) hx
theorem fa70_2:FAt 70 2 2:=fun hx=>zX (n:=1) (m:=2) (by kernel_rfl) (by decide) hx
theorem fa70_3:FAt 70 3 3:=fun hx=>zX (n:=1) (m:=3) (by kernel_rfl) (by decide) hx
theorem fa70_4:FAt 70 4 4:=fun hx=>zX (n:=1) (m:=4) (by kernel_rfl) (by decide) hx
theorem fa70_5:FAt 70 5 5:=fun hx=>zX (n:=1) (m:=5) (by kernel_rfl) (by decide) hx
theorem fa70_6:FAt 70 6 6:=fun hx=>zX (n:=1) (m:=6) (by kernel_rfl) (by decide) hx
theorem fa95_0:FAt 95 0 0:=fun hx=>zX (n:=1) (m:=0) (by kernel_rfl) (by decide) hx
theorem fa95_1:FAt 95 1 1:=fun hx=>zX (n:=7) (m:=1) (by kernel_rfl) (by decide) hx
theorem kQ:FAt 107 0 0:=fun hx=>zX (n:=1) (m:=0) (by kernel_rfl) (by decide) hx
theorem fa107_2:FAt 107 2 2:=fun hx=>zX (n:=1) (m:=2) (by kernel_rfl) (by decide) hx
theorem fa107_3:FAt 107 3 3:=fun hx=>zX (n:=1) (m:=3) (by kernel_rfl) (by decide) hx
theorem fa109_0:FAt 109 0 0:=fun hx=>zX (n:=1) (m:=0) (by kernel_rfl) (by decide) hx
theorem kP:FAt 109 1 1:=fun hx=>zX (n:=1) (m:=1) (by kernel_rfl) (by decide) hx
theorem dW:FAt 109 2 2:=fun hx=>zX (n:=4) (m:=2) (by kernel_rfl) (by decide) hx
theorem fa109_3:FAt 109 3 6:=fun hx=>zX (n:=3) (m:=6) (by kernel_rfl) (by decide) hx
theorem fa111_1:FAt 111 1 1:=fun hx=>zX (n:=1) (m:=1) (by kernel_rfl) (by decide) hx
theorem fa122_0:FAt 122 0 0:=fun hx=>zX (n:=1) (m:=0) (by kernel_rfl) (by decide) hx
theorem fa122_1:FAt 122 1 1:=fun hx=>zX (n:=1) (m:=1) (by kernel_rfl) (by decide) hx
theorem fa122_2:FAt 122 2 2:=fun hx=>zX (n:=7) (m:=2) (by kernel_rfl) (by decide) hx
theorem fa129_1:FAt 129 1 1:=fun hx=>zX (n:=1) (m:=1) (by kernel_rfl) (by decide) hx
theorem fa146_0:FAt 146 0 0:=fun hx=>zX (n:=1) (m:=0) (by kernel_rfl) (by decide) hx
theorem fa146_1:FAt 146 1 1:=fun hx=>zX (n:=1) (m:=1) (by kernel_rfl) (by decide) hx
theorem fa146_2:FAt 146 2 2:=fun hx=>zX (n:=1) (m:=2) (by kernel_rfl) (by decide) hx
theorem fa146_3:FAt 146 3 3:=fun hx=>zX (n:=1) (m:=3) (by kernel_rfl) (by decide) hx
theorem fa146_4:FAt 146 4 4:=fun hx=>zX (n:=1) (m:=4) (by kernel_rfl) (by decide) hx
theorem fa148_0:FAt 148 0 0:=fun hx=>zX (n:=1) (m:=0) (by kernel_rfl) (by decide) hx
theorem fa148_1:FAt 148 1 1:=fun hx=>zX (n:=1) (m:=1) (by kernel_rfl) (by decide) hx
theorem fa172_0:FAt 172 0 0:=fun hx=>zX (n:=1) (m:=0) (by kernel_rfl) (by decide) hx
theorem fa172_1:FAt 172 1 1:=fun hx=>zX (n:=1) (m:=1) (by kernel_rfl) (by decide) hx
theorem fa172_2:FAt 172 2 2:=fun hx=>zX (n:=1) (m:=2) (by kernel_rfl) (by decide) hx
theorem fa215_0:FAt 215 0 0:=fun hx=>zX (n:=1) (m:=0) (by kernel_rfl) (by decide) hx
theorem fa215_1:FAt 215 1 1:=fun hx=>zX (n:=1) (m:=1) (by kernel_rfl) (by decide) hx
theorem fa215_2:FAt 215 2 2:=fun hx=>zX (n:=1) (m:=2) (by kernel_rfl) (by decide) hx
theorem fa215_3:FAt 215 3 3:=fun hx=>zX (n:=1) (m:=3) (by kernel_rfl) (by decide) hx
theorem fa222_0:FAt 222 0 0:=fun hx=>zX (n:=1) (m:=0) (by kernel_rfl) (by decide) hx
theorem fa222_1:FAt 222 1 1:=fun hx=>zX (n:=1) (m:=1) (by kernel_rfl) (by decide) hx
theorem fa222_2:FAt 222 2 2:=fun hx=>zX (n:=1) (m:=2) (by kernel_rfl) (by decide) hx
theorem fa226_0:FAt 226 0 0:=fun hx=>zX (n:=1) (m:=0) (by kernel_rfl) (by decide) hx
theorem fa226_1:FAt 226 1 1:=fun hx=>zX (n:=1) (m:=1) (by kernel_rfl) (by decide) hx
theorem fa226_2:FAt 226 2 2:=fun hx=>zX (n:=1) (m:=2) (by kernel_rfl) (by decide) hx
theorem fa226_3:FAt 226 3 3:=fun hx=>zX (n:=1) (m:=3) (by kernel_rfl) (by decide) hx
theorem fa226_4:FAt 226 4 4:=fun hx=>zX (n:=1) (m:=4) (by kernel_rfl) (by decide) hx
theorem fa226_5:FAt 226 5 5:=fun hx=>zX (n:=1) (m:=5) (by kernel_rfl) (by decide) hx
theorem fa226_6:FAt 226 6 6:=fun hx=>zX (n:=1) (m:=6) (by kernel_rfl) (by decide) hx
theorem fa241_0:FAt 241 0 0:=fun hx=>zX (n:=1) (m:=0) (by kernel_rfl) (by decide) hx
theorem fa241_1:FAt 241 1 1:=fun hx=>zX (n:=1) (m:=1) (by kernel_rfl) (by decide) hx
theorem fa241_2:FAt 241 2 2:=fun hx=>zX (n:=1) (m:=2) (by kernel_rfl) (by decide) hx
theorem fa241_3:FAt 241 3 3:=fun hx=>zX (n:=1) (m:=3) (by kernel_rfl) (by decide) hx
theorem fa245_0:FAt 245 0 0:=fun hx=>zX (n:=1) (m:=0) (by kernel_rfl) (by decide) hx
theorem fa245_1:FAt 245 1 1:=fun hx=>zX (n:=1) (m:=1) (by kernel_rfl) (by decide) hx
theorem fa245_2:FAt 245 2 2:=fun hx=>zX (n:=1) (m:=2) (by kernel_rfl) (by decide) hx
theorem fa245_3:FAt 245 3 3:=fun hx=>zX (n:=1) (m:=3) (by kernel_rfl) (by decide) hx
theorem fa245_4:FAt 245 4 4:=fun hx=>zX (n:=3) (m:=4) (by kernel_rfl) (by decide) hx
theorem fa248_0:FAt 248 0 0:=fun hx=>zX (n:=1) (m:=0) (by kernel_rfl) (by decide) hx
theorem fa251_0:FAt 251 0 0:=fun hx=>zX (n:=1) (m:=0) (by kernel_rfl) (by decide) hx
theorem fa251_1:FAt 251 1 1:=fun hx=>zX (n:=1) (m:=1) (by kernel_rfl) (by decide) hx
theorem fa255_0:FAt 255 0 0:=fun hx=>zX (n:=1) (m:=0) (by kernel_rfl) (by decide) hx
theorem fa255_1:FAt 255 1 1:=fun hx=>zX (n:=1) (m:=1) (by kernel_rfl) (by decide) hx
theorem fa255_2:FAt 255 2 2:=fun hx=>zX (n:=1) (m:=2) (by kernel_rfl) (by decide) hx
theorem fa255_3:FAt 255 3 3:=fun hx=>zX (n:=1) (m:=3) (by kernel_rfl) (by decide) hx
theorem fa258_0:FAt 258 0 0:=fun hx=>zX (n:=1) (m:=0) (by kernel_rfl) (by decide) hx
theorem fa258_1:FAt 258 1 1:=fun hx=>zX (n:=1) (m:=1) (by kernel_rfl) (by decide) hx
theorem fa258_2:FAt 258 2 2:=fun hx=>zX (n:=1) (m:=2) (by kernel_rfl) (by decide) hx
theorem fa277_0:FAt 277 0 0:=fun hx=>zX (n:=1) (m:=0) (by kernel_rfl) (by decide) hx
theorem fa279_0:FAt 279 0 0:=fun hx=>zX (n:=1) (m:=0) (by kernel_rfl) (by decide) hx
theorem fa279_1:FAt 279 1 1:=fun hx=>zX (n:=1) (m:=1) (by kernel_rfl) (by decide) hx
theorem fa279_2:FAt 279 2 2:=fun hx=>zX (n:=1) (m:=2) (by kernel_rfl) (by decide) hx
theorem fa281_0:FAt 281 0 0:=fun hx=>zX (n:=1) (m:=0) (by kernel_rfl) (by decide) hx
theorem fa281_1:FAt 281 1 1:=fun hx=>zX (n:=1) (m:=1) (by kernel_rfl) (by decide) hx
theorem fa281_2:FAt 281 2 2:=fun hx=>zX (n:=1) (m:=2) (by kernel_rfl) (by decide) hx
theorem fa281_3:FAt 281 3 3:=fun hx=>zX (n:=1) (m:=3) (by kernel_rfl) (by decide) hx
theorem fa281_4:FAt 281 4 4:=fun hx=>zX (n:=1) (m:=4) (by kernel_rfl) (by decide) hx
theorem fa283_0:FAt 283 0 0:=fun hx=>zX (n:=1) (m:=0) (by kernel_rfl) (by decide) hx
theorem fa285_0:FAt 285 0 0:=fun hx=>zX (n:=1) (m:=0) (by kernel_rfl) (by decide) hx
theorem en18:Go.OB.Enters Tryz.prog 18:=fV Tryz.func18
theorem en20:Go.OB.Enters Tryz.prog 20:=fV Tryz.func20
theorem en21:Go.OB.Enters Tryz.prog 21:=fV Tryz.func21
theorem en23:Go.OB.Enters Tryz.prog 23:=fV Tryz.func23
theorem en25:Go.OB.Enters Tryz.prog 25:=fV Tryz.func25
theorem en26:Go.OB.Enters Tryz.prog 26:=fV Tryz.func26
theorem en27:Go.OB.Enters Tryz.prog 27:=fV Tryz.func27
theorem en28:Go.OB.Enters Tryz.prog 28:=fV Tryz.func28
theorem en29:Go.OB.Enters Tryz.prog 29:=fV Tryz.func29
theorem en31:Go.OB.Enters Tryz.prog 31:=fV Tryz.func31
theorem en33:Go.OB.Enters Tryz.prog 33:=fV Tryz.func33
theorem en38:Go.OB.Enters Tryz.prog 38:=fV Tryz.func38
theorem en39:Go.OB.Enters Tryz.prog 39:=fV Tryz.func39
theorem en47:Go.OB.Enters Tryz.prog 47:=fV Tryz.func47
theorem en57:Go.OB.Enters Tryz.prog 57:=fV Tryz.func57
theorem en58:Go.OB.Enters Tryz.prog 58:=fV Tryz.func58
theorem en68:Go.OB.Enters Tryz.prog 68:=fV Tryz.func68
theorem en69:Go.OB.Enters Tryz.prog 69:=fV Tryz.func69
theorem en70:Go.OB.Enters Tryz.prog 70:=fV Tryz.func70
theorem en71:Go.OB.Enters Tryz.prog 71:=fV Tryz.func71
theorem en73:Go.OB.Enters Tryz.prog 73:=fV Tryz.func73
theorem en74:Go.OB.Enters Tryz.prog 74:=fV Tryz.func74
theorem en75:Go.OB.Enters Tryz.prog 75:=fV Tryz.func75
theorem en76:Go.OB.Enters Tryz.prog 76:=fV Tryz.func76
theorem en78:Go.OB.Enters Tryz.prog 78:=fV Tryz.func78
theorem en79:Go.OB.Enters Tryz.prog 79:=fV Tryz.func79
theorem en80:Go.OB.Enters Tryz.prog 80:=fV Tryz.func80
theorem en81:Go.OB.Enters Tryz.prog 81:=fV Tryz.func81
theorem en82:Go.OB.Enters Tryz.prog 82:=fV Tryz.func82
theorem en86:Go.OB.Enters Tryz.prog 86:=fV Tryz.func86
theorem en87:Go.OB.Enters Tryz.prog 87:=fV Tryz.func87
theorem en88:Go.OB.Enters Tryz.prog 88:=fV Tryz.func88
theorem en89:Go.OB.Enters Tryz.prog 89:=fV Tryz.func89
theorem en95:Go.OB.Enters Tryz.prog 95:=fV Tryz.func95
theorem en99:Go.OB.Enters Tryz.prog 99:=fV Tryz.func99
theorem en100:Go.OB.Enters Tryz.prog 100:=fV Tryz.func100
theorem en101:Go.OB.Enters Tryz.prog 101:=fV Tryz.func101
theorem en112:Go.OB.Enters Tryz.prog 112:=fV Tryz.func112
theorem en120:Go.OB.Enters Tryz.prog 120:=fV Tryz.func120
theorem en121:Go.OB.Enters Tryz.prog 121:=fV Tryz.func121
theorem en122:Go.OB.Enters Tryz.prog 122:=fV Tryz.func122
theorem en123:Go.OB.Enters Tryz.prog 123:=fV Tryz.func123
theorem en124:Go.OB.Enters Tryz.prog 124:=fV Tryz.func124
theorem en129:Go.OB.Enters Tryz.prog 129:=fV Tryz.func129
theorem en130:Go.OB.Enters Tryz.prog 130:=fV Tryz.func130
theorem en131:Go.OB.Enters Tryz.prog 131:=fV Tryz.func131
theorem en132:Go.OB.Enters Tryz.prog 132:=fV Tryz.func132
theorem en134:Go.OB.Enters Tryz.prog 134:=fV Tryz.func134
theorem en135:Go.OB.Enters Tryz.prog 135:=fV Tryz.func135
theorem en136:Go.OB.Enters Tryz.prog 136:=fV Tryz.func136
theorem en137:Go.OB.Enters Tryz.prog 137:=fV Tryz.func137
theorem en138:Go.OB.Enters Tryz.prog 138:=fV Tryz.func138
theorem en139:Go.OB.Enters Tryz.prog 139:=fV Tryz.func139
theorem en141:Go.OB.Enters Tryz.prog 141:=fV Tryz.func141
theorem en142:Go.OB.Enters Tryz.prog 142:=fV Tryz.func142
theorem en144:Go.OB.Enters Tryz.prog 144:=fV Tryz.func144
theorem en145:Go.OB.Enters Tryz.prog 145:=fV Tryz.func145
theorem en146:Go.OB.Enters Tryz.prog 146:=fV Tryz.func146
theorem en147:Go.OB.Enters Tryz.prog 147:=fV Tryz.func147
theorem en148:Go.OB.Enters Tryz.prog 148:=fV Tryz.func148
theorem en149:Go.OB.Enters Tryz.prog 149:=fV Tryz.func149
theorem en150:Go.OB.Enters Tryz.prog 150:=fV Tryz.func150
theorem en152:Go.OB.Enters Tryz.prog 152:=fV Tryz.func152
theorem en153:Go.OB.Enters Tryz.prog 153:=fV Tryz.func153
theorem en155:Go.OB.Enters Tryz.prog 155:=fV Tryz.func155
theorem en157:Go.OB.Enters Tryz.prog 157:=fV Tryz.func157
theorem en166:Go.OB.Enters Tryz.prog 166:=fV Tryz.func166
theorem en174:Go.OB.Enters Tryz.prog 174:=fV Tryz.func174
theorem en175:Go.OB.Enters Tryz.prog 175:=fV Tryz.func175
theorem en176:Go.OB.Enters Tryz.prog 176:=fV Tryz.func176
theorem en177:Go.OB.Enters Tryz.prog 177:=fV Tryz.func177
theorem en178:Go.OB.Enters Tryz.prog 178:=fV Tryz.func178
theorem en179:Go.OB.Enters Tryz.prog 179:=fV Tryz.func179
theorem en180:Go.OB.Enters Tryz.prog 180:=fV Tryz.func180
theorem en181:Go.OB.Enters Tryz.prog 181:=fV Tryz.func181
theorem en188:Go.OB.Enters Tryz.prog 188:=fV Tryz.func188
theorem en189:Go.OB.Enters Tryz.prog 189:=fV Tryz.func189
theorem en190:Go.OB.Enters Tryz.prog 190:=fV Tryz.func190
theorem en191:Go.OB.Enters Tryz.prog 191:=fV Tryz.func191
theorem en194:Go.OB.Enters Tryz.prog 194:=fV Tryz.func194
theorem en196:Go.OB.Enters Tryz.prog 196:=fV Tryz.func196
theorem en208:Go.OB.Enters Tryz.prog 208:=fV Tryz.func208
theorem en213:Go.OB.Enters Tryz.prog 213:=fV Tryz.func213
theorem en214:Go.OB.Enters Tryz.prog 214:=fV Tryz.func214
theorem en215:Go.OB.Enters Tryz.prog 215:=fV Tryz.func215
theorem en216:Go.OB.Enters Tryz.prog 216:=fV Tryz.func216
theorem en217:Go.OB.Enters Tryz.prog 217:=fV Tryz.func217
theorem en218:Go.OB.Enters Tryz.prog 218:=fV Tryz.func218
theorem en219:Go.OB.Enters Tryz.prog 219:=fV Tryz.func219
theorem en226:Go.OB.Enters Tryz.prog 226:=fV Tryz.func226
theorem en257:Go.OB.Enters Tryz.prog 257:=fV Tryz.func257
theorem en270:Go.OB.Enters Tryz.prog 270:=fV Tryz.func270
theorem en309:Go.OB.Enters Tryz.prog 309:=fV Tryz.func309
theorem en310:Go.OB.Enters Tryz.prog 310:=fV Tryz.func310
theorem en311:Go.OB.Enters Tryz.prog 311:=fV Tryz.func311
theorem en312:Go.OB.Enters Tryz.prog 312:=fV Tryz.func312
theorem en313:Go.OB.Enters Tryz.prog 313:=fV Tryz.func313
theorem en314:Go.OB.Enters Tryz.prog 314:=fV Tryz.func314
theorem en315:Go.OB.Enters Tryz.prog 315:=fV Tryz.func315
theorem en316:Go.OB.Enters Tryz.prog 316:=fV Tryz.func316
theorem en317:Go.OB.Enters Tryz.prog 317:=fV Tryz.func317
theorem en318:Go.OB.Enters Tryz.prog 318:=fV Tryz.func318
theorem en319:Go.OB.Enters Tryz.prog 319:=fV Tryz.func319
theorem en320:Go.OB.Enters Tryz.prog 320:=fV Tryz.func320
theorem en321:Go.OB.Enters Tryz.prog 321:=fV Tryz.func321
theorem en322:Go.OB.Enters Tryz.prog 322:=fV Tryz.func322
theorem en323:Go.OB.Enters Tryz.prog 323:=fV Tryz.func323
theorem en324:Go.OB.Enters Tryz.prog 324:=fV Tryz.func324
theorem en325:Go.OB.Enters Tryz.prog 325:=fV Tryz.func325
theorem en326:Go.OB.Enters Tryz.prog 326:=fV Tryz.func326
theorem en327:Go.OB.Enters Tryz.prog 327:=fV Tryz.func327
theorem en328:Go.OB.Enters Tryz.prog 328:=fV Tryz.func328
theorem en329:Go.OB.Enters Tryz.prog 329:=fV Tryz.func329
theorem en330:Go.OB.Enters Tryz.prog 330:=fV Tryz.func330
theorem en331:Go.OB.Enters Tryz.prog 331:=fV Tryz.func331
theorem en332:Go.OB.Enters Tryz.prog 332:=fV Tryz.func332
theorem en333:Go.OB.Enters Tryz.prog 333:=fV Tryz.func333
theorem en334:Go.OB.Enters Tryz.prog 334:=fV Tryz.func334
theorem en335:Go.OB.Enters Tryz.prog 335:=fV Tryz.func335
theorem en336:Go.OB.Enters Tryz.prog 336:=fV Tryz.func336
theorem en337:Go.OB.Enters Tryz.prog 337:=fV Tryz.func337
theorem mixed:Tryz.prog.follows .mixedOrders=true:=by kernel_rfl
theorem Fauw (d:gW)(l:Nat)(j:Value)(f:Value)(n:List Nat)(h:Value)(o:List Nat)(k:Value)(r:(List Str))(c:Fau d=some r)(O S:List Nat)(w:World)(H:Hd O w w S [.tr fJ [f] n d.moves,.tr fG [h] o d.rules,.blk l [j,i6 d.tracks,f,h,k] 146,f1 Rp.str j d.phases,f1 Rp.bool k d.possible]):
  Cl 27 [gU l] w fun e F=> ∃z G I,e= .returned (z)∧Hd O w F S [.own Rp.str z 9 r,.tr fJ [f] G d.moves,.tr fG [h] I d.rules,.blk l [j,i6 d.tracks,f,h,k] 146]:=by
 unfold Fau at c
 refine zS 29 Tryz.func27 rfl rfl rfl ?_
 refine zC fun a0 J=>zA<| zK (.slice none 0 0)<| zF (zB (J _ _ ?_))
 refine zC fun a1 K=>zA<| zK (.slice none 0 0)<| zF (zB (K _ _ ?_))
 obtain ⟨A,c,L⟩:=zD c
 refine yL [3,4,5,6,7,8,9,10,11,12,13,14,15,16,17,18,19,20,21,22,23,24,25,26,27] (fun (g:Value)=>[(3,g)]) (fun g wl=>Hd O w wl S [.own Rp.str g 9 A,.tr fJ [f] n d.moves,.tr fG [h] o d.rules,.blk l [j,i6 d.tracks,f,h,k] 146,f1 Rp.str j d.phases,f1 Rp.bool k d.possible]) ?_ ?_
 ·skip
  refine zC fun a2 M=>zA<| zI (gU l)<| zH (zN rfl)<| zH (fa146_4 rfl)<| Ld one144 H 2 4 rfl rfl ?_
  obtain ⟨N,P,c⟩:=zG c
  obtain ⟨a3,a4,Q⟩:=SlF.len ((H.item (i:=4) rfl))
  refine zH (yJ (xN u144 Q) (congrArg (Value.int .i64) P))<| zI (i6 0)<| zF (zB (M _ _ ?_))
  refine yF ?_
  have H:=dY H Rp.str 9
  unfold Feg at c
  obtain ⟨R,B,T,c⟩:=yR c
  refine xG [3,4,5,11,12,13,14,15,16,17,18,19,20,21,22,23,24,25,26,27] (fun (g:Nat×(List Str)×Int×Value)=>[(3,g.2.2.2),(11,i6 g.2.2.1)]) (fun g wl=>Hd O w wl S [.own Rp.str g.2.2.2 9 g.2.1,.tr fJ [f] n d.moves,.tr fG [h] o d.rules,.blk l [j,i6 d.tracks,f,h,k] 146,f1 Rp.str j d.phases,f1 Rp.bool k d.possible]∧eF R g.1 (g.2.1,g.2.2.1)=some A) (fun g=>g.1) (B,[],0,.slice none 0 0) (zL rfl (zL rfl zO)) ⟨H.pick [5,0,1,2,3,4] (by decide),c⟩ ?_
  clear H c
  rintro ⟨B,a5,m,t⟩ ρ a6 ⟨H,c⟩
  obtain ⟨U,rfl,c⟩:=yX c
  have c:=yY T c
  refine zC fun a7 V=>zA ?_
  obtain ⟨X,Y,c⟩:=zG c
  refine zH (zQ (xR (a:=m) (b:=N) rfl rfl) Y)<| zF (zB (V _ _ ?_))
  refine zC fun a8 Z=>?_
  refine yC (b:=X) rfl (fun u=>?_) (fun u=>?_)
  ·have c:=zT u c
   refine yB (zB (Z _ _ ?_))
   obtain ⟨C,c,aa⟩:=zD c
   refine yL [3,4,5,13,14,15,16,17,18,19,20,21,22,23,24,25,26] (fun (g:Value)=>[(3,g)]) (fun g wl=>Hd O w wl S [.own Rp.str g 9 C,.tr fJ [f] n d.moves,.tr fG [h] o d.rules,.blk l [j,i6 d.tracks,f,h,k] 146,f1 Rp.str j d.phases,f1 Rp.bool k d.possible]) ?_ ?_
   ·skip
    refine yF ?_
    refine zC fun a9 ab=>zA<| zI (i6 m) ?_
    obtain ⟨q,v,c⟩:=zD c
    obtain ⟨ac,ad,ba,ae,af,ag,ah,ai,aj⟩:=dQ (H.item (i:=5) rfl) v
    obtain rfl:ae= [.bool q]:=ag
    have H:=H.fz (.at ac (ad+m.toNat * 1) _) ⟨ah,ai,aj⟩
    refine zH (xJ u144 sz4 af rfl (yE v).1 (yE v).2.1 rfl rfl)<| zH (xA one4 rfl (Cells.get (H.item (i:=6) rfl).2.2 (i:=0) rfl))<| zK (i6 m)<| zK (.bool q)<| zF (zB (ab _ _ ?_))
    refine zC fun bb ak=>zA<| zI (.bool q)<| zF (zB (ak _ _ ?_))
    refine yC (b:=q) rfl (fun x=>?_) (fun x=>?_)
    ·have c:=zT x c
     refine zA ?_
     refine zI t<| zI (gU l)<| zH (zN rfl)<| zH (fa146_0 rfl)<| Ld one22 H 3 0 rfl rfl<| zI (i6 m) ?_
     obtain ⟨p,y,c⟩:=zD c
     obtain ⟨al,am,bc,an,ao,ap,aq,ar,au⟩:=dQ (H.item (i:=4) rfl) y
     obtain rfl:an= [sb p]:=ap
     have H:=H.fz (.at al (am+m.toNat * 1) _) ⟨aq,ar,au⟩
     refine zH (xJ u22 sz9 ao rfl (yE y).1 (yE y).2.1 rfl rfl)<| zH (xA bC rfl (Cells.get (H.item (i:=7) rfl).2.2 (i:=0) rfl)) ?_
     obtain ⟨bd,av,c⟩:=zG c
     subst av
     refine yP rfl rfl (kM (r:=Rp.str) (xl:=[p]) (cs:=[sb p]) u22 el9 (by decide) (by decide) rfl (xP (vs:=[sb p]) (by decide) rfl rfl ⟨rfl,trivial⟩ rfl) H ⟨[sb p],[],rfl,rfl,rfl⟩) ?_
     rintro be bf H
     obtain ⟨bg,aw,c⟩:=zD c
     refine yP rfl rfl (aO H (i:=0) rfl u22 el9 rfl rfl (Sr.of_own (H.item (i:=8) rfl)) aw) ?_
     rintro D bh H
     refine zK D ?_
     obtain rfl:=gI c
     exact (zF (yK (zB (meet ⟨D,(zL rfl zO),H.pick [0,1,2,3,4,5] (by decide)⟩))))
    have c:=zU x c
    obtain rfl:=gI c
    exact (yB (yK (zB (meet ⟨t,(zL rfl zO),H.pick [0,1,2,3,4,5] (by decide)⟩))))
   rintro ax ρ bi H
   have c:=aa
   refine zA ?_
   obtain ⟨E,ay,c⟩:=zG c
   refine zH (xQ (a:=m) (b:=1) rfl rfl ay)<| zI (i6 E) ?_
   exact (zF (zB (meet ⟨(U,C,E,ax),(zL rfl (zL rfl zO)),⟨H.pick [0,1,2,3,4,5] (by decide),c⟩,Nat.lt_succ_self _⟩)))
  have c:=zU u c
  obtain rfl:=gI c
  exact (xK (yH (yH (yU (zB (meet ⟨t,(zL rfl zO),H.pick [0,1,2,3,4,5] (by decide)⟩))))))
 rintro s ρ bj H
 have c:=L
 refine zC fun bk az=>zA<| zI s<| zK s<| zF (zB (az _ _ ?_))
 obtain rfl:=gI c
 refine (zY (fF (v1:=s) rfl rfl ?_))
 exact ⟨s,n,o,rfl,H.pick [0,1,2,3] (by decide)⟩
set_option maxRecDepth 100000 in
theorem Fbbw (d:Int)(r:Bool)(c:Fbb d=some r)(O S:List Nat)(w:World)(H:Hd O w w S []):
  Cl 145 [.int .u8 d] w fun e p=>e= .returned (.bool r)∧Hd O w p S []:=by
 unfold Fbb at c
 refine zS 21 Tryz.func145 rfl rfl rfl ?_
 refine zC fun F q=>zA<| zK (.bool false)<| zF (zB (q _ _ ?_))
 obtain ⟨k,c,s⟩:=zD c
 refine yL [2,3,4,5,6,7,8,9,10,11,12,13,14,15,16,17,18,19,20] (fun (g:Unit)=>[(2,.bool k)]) (fun g wl=>Hd O w wl S []) ?_ ?_
 ·skip
  refine zA ?_
  refine zI (.int .u8 d) ?_
  obtain ⟨t,u,c⟩:=zG c
  refine zH (zQ (Do_geq (a:=d) (b:=97) rfl rfl) u) ?_
  obtain ⟨l,c,x⟩:=zD c
  refine bW 4 [5,6,7,8] [(8,.bool l)] (fun wl=>Hd O w wl S []) ?_ ?_
  ·skip
   refine yS (b:=t) rfl rfl rfl (fun f=>?_) (fun f=>?_)
   ·have c:=zT f c
    refine zI (.int .u8 d) ?_
    obtain ⟨y,z,c⟩:=zG c
    refine zH (zQ (Do_leq (a:=d) (b:=122) rfl rfl) z)<| zH (yO (v:= .bool y) rfl rfl) ?_
    obtain rfl:=gI c
    exact zF (zB (meet ⟨(zL rfl zO),H.pick [] (by decide)⟩))
   have c:=zU f c
   refine yI ?_
   refine yI ?_
   refine zH (yN (v:= .bool false) rfl rfl) ?_
   obtain rfl:=gI c
   exact zF (zB (meet ⟨(zL rfl zO),H.pick [] (by decide)⟩))
  rintro ρ G H
  have c:=x
  obtain ⟨m,c,A⟩:=zD c
  refine bW 8 [9,10,11,12,13,14,15,16] [(16,.bool m)] (fun wl=>Hd O w wl S []) ?_ ?_
  ·skip
   refine yS (b:=l) rfl rfl rfl (fun h=>?_) (fun h=>?_)
   ·have c:=zT h c
    refine yI ?_
    refine yI ?_
    refine yI ?_
    refine yI ?_
    refine yI ?_
    refine yI ?_
    refine zH (yO (v:= .bool true) rfl rfl) ?_
    obtain rfl:=gI c
    exact zF (zB (meet ⟨(zL rfl zO),H.pick [] (by decide)⟩))
   have c:=zU h c
   refine zI (.int .u8 d) ?_
   obtain ⟨B,C,c⟩:=zG c
   refine zH (zQ (Do_geq (a:=d) (b:=48) rfl rfl) C)<| yS (b:=B) rfl rfl rfl (fun i=>?_) (fun i=>?_)
   ·have c:=zT i c
    refine zI (.int .u8 d) ?_
    obtain ⟨n,D,c⟩:=zG c
    refine zH (zQ (Do_leq (a:=d) (b:=57) rfl rfl) D)<| zH (yO (v:= .bool n) rfl rfl)<| zH (yN (v:= .bool n) rfl rfl) ?_
    obtain rfl:=gI c
    exact zF (zB (meet ⟨(zL rfl zO),H.pick [] (by decide)⟩))
   have c:=zU i c
   refine yI ?_
   refine yI ?_
   refine zH (yN (v:= .bool false) rfl rfl)<| zH (yN (v:= .bool false) rfl rfl) ?_
   obtain rfl:=gI c
   exact zF (zB (meet ⟨(zL rfl zO),H.pick [] (by decide)⟩))
  rintro ρ I H
  have c:=A
  refine yS (b:=m) rfl rfl rfl (fun j=>?_) (fun j=>?_)
  ·have c:=zT j c
   refine yI ?_
   refine yI ?_
   refine zH (yO (v:= .bool true) rfl rfl)<| zK (.bool true) ?_
   obtain rfl:=gI c
   exact (zF (zB (meet ⟨(),(zL rfl zO),H.pick [] (by decide)⟩)))
  have c:=zU j c
  refine zI (.int .u8 d) ?_
  obtain ⟨o,E,c⟩:=zG c
  refine zH (zQ (yT (a:=d) (b:=45) rfl rfl) E)<| zH (yN (v:= .bool o) rfl rfl)<| zK (.bool o) ?_
  obtain rfl:=gI c
  exact (zF (zB (meet ⟨(),(zL rfl zO),H.pick [] (by decide)⟩)))
 rintro _ ρ J H
 have c:=s
 obtain rfl:=gI c
 refine (zY (fF (v1:= .bool k) rfl rfl ?_))
 exact ⟨rfl,H.pick [] (by decide)⟩
set_option maxRecDepth 100000 in
theorem Fbmw (c:Str)(r:Bool)(a:Fbm c=some r)(O S:List Nat)(w:World)(H:Hd O w w S []):
  Cl 144 [sb c] w fun e P=>e= .returned (.bool r)∧Hd O w P S []:=by
 unfold Fbm at a
 refine zS 21 Tryz.func144 rfl rfl rfl ?_
 refine zC fun K1 Q=>zA<| zK (.bool false)<| zF (zB (Q _ _ ?_))
 refine zC fun a7 R=>?_
 refine zC fun a8 T=>zA<| zI (sb c)<| zF (zB (T _ _ ?_))
 refine yF ?_
 obtain ⟨x,a,U⟩:=zD a
 refine yL [4,5,6,7,8,9,10,11,12,13,14,15,16,17,18,19,20] (fun (g:Unit)=>[(4,.bool x)]) (fun g wl=>Hd O w wl S []) ?_ ?_
 ·skip
  refine zC fun a9 V=>zA ?_
  obtain ⟨y,X,a⟩:=zG a
  refine zH (zQ (wE (s1:=c) (s2:=[112,104,97,115,101]) rfl rfl) X)<| zK (.bool y)<| zF (zB (V _ _ ?_))
  refine yC (b:=y) rfl (fun d=>?_) (fun d=>?_)
  ·have a:=zT d a
   obtain rfl:=gI a
   exact (yB (zB (meet ⟨(),(zL rfl zO),H.pick [] (by decide)⟩)))
  have a:=zU d a
  refine zC fun ba Y=>zA ?_
  obtain ⟨z,Z,a⟩:=zG a
  refine zH (zQ (wE (s1:=c) (s2:=[109,111,118,101]) rfl rfl) Z)<| zK (.bool z)<| zF (zB (Y _ _ ?_))
  refine yC (b:=z) rfl (fun f=>?_) (fun f=>?_)
  ·have a:=zT f a
   obtain rfl:=gI a
   exact (yB (zB (meet ⟨(),(zL rfl zO),H.pick [] (by decide)⟩)))
  have a:=zU f a
  refine zC fun bb aa=>zA ?_
  obtain ⟨A,ab,a⟩:=zG a
  refine zH (zQ (wE (s1:=c) (s2:=[114,117,108,101]) rfl rfl) ab)<| zK (.bool A)<| zF (zB (aa _ _ ?_))
  refine yC (b:=A) rfl (fun h=>?_) (fun h=>?_)
  ·have a:=zT h a
   obtain rfl:=gI a
   exact (yB (zB (meet ⟨(),(zL rfl zO),H.pick [] (by decide)⟩)))
  have a:=zU h a
  refine zC fun bc ac=>zA ?_
  obtain ⟨B,ad,a⟩:=zG a
  refine zH (zQ (wE (s1:=c) (s2:=[105,102]) rfl rfl) ad)<| zK (.bool B)<| zF (zB (ac _ _ ?_))
  refine yC (b:=B) rfl (fun i=>?_) (fun i=>?_)
  ·have a:=zT i a
   obtain rfl:=gI a
   exact (yB (zB (meet ⟨(),(zL rfl zO),H.pick [] (by decide)⟩)))
  have a:=zU i a
  refine zC fun bd ae=>zA ?_
  obtain ⟨C,af,a⟩:=zG a
  refine zH (zQ (wE (s1:=c) (s2:=[111,114]) rfl rfl) af)<| zK (.bool C)<| zF (zB (ae _ _ ?_))
  refine yC (b:=C) rfl (fun j=>?_) (fun j=>?_)
  ·have a:=zT j a
   obtain rfl:=gI a
   exact (yB (zB (meet ⟨(),(zL rfl zO),H.pick [] (by decide)⟩)))
  have a:=zU j a
  refine zC fun be ag=>zA ?_
  obtain ⟨D,ah,a⟩:=zG a
  refine zH (zQ (wE (s1:=c) (s2:=[97,110,100]) rfl rfl) ah)<| zK (.bool D)<| zF (zB (ag _ _ ?_))
  refine yC (b:=D) rfl (fun k=>?_) (fun k=>?_)
  ·have a:=zT k a
   obtain rfl:=gI a
   exact (yB (zB (meet ⟨(),(zL rfl zO),H.pick [] (by decide)⟩)))
  have a:=zU k a
  refine zC fun bf ai=>zA ?_
  obtain ⟨E,aj,a⟩:=zG a
  refine zH (zQ (wE (s1:=c) (s2:=[116,114,117,101]) rfl rfl) aj)<| zK (.bool E)<| zF (zB (ai _ _ ?_))
  refine yC (b:=E) rfl (fun l=>?_) (fun l=>?_)
  ·have a:=zT l a
   obtain rfl:=gI a
   exact (yB (zB (meet ⟨(),(zL rfl zO),H.pick [] (by decide)⟩)))
  have a:=zU l a
  refine zC fun bg ak=>zA ?_
  obtain ⟨F,al,a⟩:=zG a
  refine zH (zQ (wE (s1:=c) (s2:=[102,97,108,115,101]) rfl rfl) al)<| zK (.bool F)<| zF (zB (ak _ _ ?_))
  refine yC (b:=F) rfl (fun m=>?_) (fun m=>?_)
  ·have a:=zT m a
   obtain rfl:=gI a
   exact (yB (zB (meet ⟨(),(zL rfl zO),H.pick [] (by decide)⟩)))
  have a:=zU m a
  refine zC fun bh am=>zA ?_
  obtain ⟨G,an,a⟩:=zG a
  refine zH (zQ (wE (s1:=c) (s2:=[115,116,101,97,100,121]) rfl rfl) an)<| zK (.bool G)<| zF (zB (am _ _ ?_))
  refine yC (b:=G) rfl (fun n=>?_) (fun n=>?_)
  ·have a:=zT n a
   obtain rfl:=gI a
   exact (yB (zB (meet ⟨(),(zL rfl zO),H.pick [] (by decide)⟩)))
  have a:=zU n a
  refine zC fun bi ao=>zA ?_
  obtain ⟨I,ap,a⟩:=zG a
  refine zH (zQ (wE (s1:=c) (s2:=[110,111,116]) rfl rfl) ap)<| zK (.bool I)<| zF (zB (ao _ _ ?_))
  refine yC (b:=I) rfl (fun o=>?_) (fun o=>?_)
  ·have a:=zT o a
   obtain rfl:=gI a
   exact (yB (zB (meet ⟨(),(zL rfl zO),H.pick [] (by decide)⟩)))
  have a:=zU o a
  refine zC fun bj aq=>zA ?_
  obtain ⟨J,ar,a⟩:=zG a
  refine zH (zQ (wE (s1:=c) (s2:=[102,111,114]) rfl rfl) ar)<| zK (.bool J)<| zF (zB (aq _ _ ?_))
  refine yC (b:=J) rfl (fun p=>?_) (fun p=>?_)
  ·have a:=zT p a
   obtain rfl:=gI a
   exact (yB (zB (meet ⟨(),(zL rfl zO),H.pick [] (by decide)⟩)))
  have a:=zU p a
  refine zC fun bk au=>zA ?_
  obtain ⟨K,av,a⟩:=zG a
  refine zH (zQ (wE (s1:=c) (s2:=[119,105,116,104,105,110]) rfl rfl) av)<| zK (.bool K)<| zF (zB (au _ _ ?_))
  refine yC (b:=K) rfl (fun q=>?_) (fun q=>?_)
  ·have a:=zT q a
   obtain rfl:=gI a
   exact (yB (zB (meet ⟨(),(zL rfl zO),H.pick [] (by decide)⟩)))
  have a:=zU q a
  refine zC fun bl aw=>zA ?_
  obtain ⟨L,ax,a⟩:=zG a
  refine zH (zQ (wE (s1:=c) (s2:=[99,111,117,110,116]) rfl rfl) ax)<| zK (.bool L)<| zF (zB (aw _ _ ?_))
  refine yC (b:=L) rfl (fun s=>?_) (fun s=>?_)
  ·have a:=zT s a
   obtain rfl:=gI a
   exact (yB (zB (meet ⟨(),(zL rfl zO),H.pick [] (by decide)⟩)))
  have a:=zU s a
  refine zC fun bm ay=>zA ?_
  obtain ⟨M,az,a⟩:=zG a
  refine zH (zQ (wE (s1:=c) (s2:=[111,102]) rfl rfl) az)<| zK (.bool M)<| zF (zB (ay _ _ ?_))
  refine yC (b:=M) rfl (fun t=>?_) (fun t=>?_)
  ·have a:=zT t a
   obtain rfl:=gI a
   exact (yB (zB (meet ⟨(),(zL rfl zO),H.pick [] (by decide)⟩)))
  have a:=zU t a
  refine zC fun bn a0=>zA ?_
  obtain ⟨N,a1,a⟩:=zG a
  refine zH (zQ (wE (s1:=c) (s2:=[114,105,115,101,115]) rfl rfl) a1)<| zK (.bool N)<| zF (zB (a0 _ _ ?_))
  refine yC (b:=N) rfl (fun u=>?_) (fun u=>?_)
  ·have a:=zT u a
   obtain rfl:=gI a
   exact (yB (zB (meet ⟨(),(zL rfl zO),H.pick [] (by decide)⟩)))
  have a:=zU u a
  refine zA ?_
  obtain ⟨a2,a3,a⟩:=zG a
  refine zH (zQ (wE (s1:=c) (s2:=[115,105,110,99,101]) rfl rfl) a3)<| zK (.bool a2) ?_
  obtain rfl:=gI a
  exact (zF (zB (meet ⟨(),(zL rfl zO),H.pick [] (by decide)⟩)))
 rintro _ ρ bo H
 have a:=U
 refine yC (b:=x) rfl (fun v=>?_) (fun v=>?_)
 ·have a:=zT v a
  refine zC fun bp a4=>zA<| zK (.bool true)<| zF (zB (a4 _ _ ?_))
  obtain rfl:=gI a
  refine (zY (yG (zZ (fF (v1:= .bool true) rfl rfl ?_))))
  exact ⟨rfl,H.pick [] (by decide)⟩
 have a:=zU v a
 refine (yB (yK (zB (R _ _ ?_))))
 refine zC fun bq a5=>zA<| zK (.bool false)<| zF (zB (a5 _ _ ?_))
 obtain rfl:=gI a
 refine (zY (fF (v1:= .bool false) rfl rfl ?_))
 exact ⟨rfl,H.pick [] (by decide)⟩
theorem Faew (d:Int)(f:Int)(h:Int)(r:Bool)(c:Fae d f h=some r)(O S:List Nat)(w:World)(H:Hd O w w S []):
  Cl 76 [i6 d,i6 f,i6 h] w fun e l=>e= .returned (.bool r)∧Hd O w l S []:=by
 unfold Fae at c
 refine zS 15 Tryz.func76 rfl rfl rfl ?_
 refine zC fun s m=>zA<| zK (.bool false)<| zF (zB (m _ _ ?_))
 obtain ⟨j,c,n⟩:=zD c
 refine yL [6,7,8,9,10,11,12,13,14] (fun (g:Unit)=>[(6,.bool j)]) (fun g wl=>Hd O w wl S []) ?_ ?_
 ·skip
  refine zA ?_
  refine zI (i6 d)<| zI (i6 f) ?_
  obtain ⟨o,p,c⟩:=zG c
  refine zH (zQ (Do_geq (a:=d) (b:=f) rfl rfl) p)<| yS (b:=o) rfl rfl rfl (fun i=>?_) (fun i=>?_)
  ·have c:=zT i c
   refine zI (i6 d)<| zI (i6 h) ?_
   obtain ⟨k,q,c⟩:=zG c
   refine zH (zQ (Do_leq (a:=d) (b:=h) rfl rfl) q)<| zH (yO (v:= .bool k) rfl rfl)<| zK (.bool k) ?_
   obtain rfl:=gI c
   exact (zF (zB (meet ⟨(),(zL rfl zO),H.pick [] (by decide)⟩)))
  have c:=zU i c
  refine yI ?_
  refine yI ?_
  refine yI ?_
  refine zH (yN (v:= .bool false) rfl rfl)<| zK (.bool false) ?_
  obtain rfl:=gI c
  exact (zF (zB (meet ⟨(),(zL rfl zO),H.pick [] (by decide)⟩)))
 rintro _ ρ t H
 have c:=n
 obtain rfl:=gI c
 refine (zY (fF (v1:= .bool j) rfl rfl ?_))
 exact ⟨rfl,H.pick [] (by decide)⟩
set_option maxRecDepth 100000 in
theorem Fahw (d:Str)(r:Bool)(c:Fah d=some r)(O S:List Nat)(w:World)(H:Hd O w w S []):
  Cl 86 [sb d] w fun e x=>e= .returned (.bool r)∧Hd O w x S []:=by
 unfold Fah at c
 refine zS 33 Tryz.func86 rfl rfl rfl ?_
 refine zC fun K1 y=>zA<| zK (.bool false)<| zF (zB (y _ _ ?_))
 refine zC fun a5 z=>?_
 obtain ⟨n,c,A⟩:=zD c
 refine yL [4,5,6,7,8,9,10,11,12,13,14,15,16,17,18,19,20,21] (fun (g:Unit)=>[(21,.bool n)]) (fun g wl=>Hd O w wl S []) ?_ ?_
 ·skip
  refine zA ?_
  refine zI (sb d) ?_
  obtain ⟨B,C,c⟩:=zG c
  refine zH (yJ (kD (s1:=d) u9 rfl) (congrArg (Value.int .i64) C)) ?_
  have D:=H
  obtain ⟨E,F,c⟩:=zD c
  refine yA rfl rfl (zV en76 rfl) (Faew B 1 30 _ F _ _ _ (H.enter [] [] (by decide) rfl)) ?_
  rintro _ a6 ⟨rfl,G⟩
  have H:=D.step (G.only:Only [] _ _)
  refine ⟨_,rfl,?_⟩
  obtain ⟨I,J,c⟩:=zG c
  refine zH (zQ (wL (p:=E) rfl) J) ?_
  obtain ⟨o,c,K⟩:=zD c
  refine bW 5 [8,9,10,11,12] [(12,.bool o)] (fun wl=>Hd O w wl S []) ?_ ?_
  ·skip
   refine yS (b:=I) rfl rfl rfl (fun h=>?_) (fun h=>?_)
   ·have c:=zT h c
    refine yI ?_
    refine yI ?_
    refine yI ?_
    refine zH (yO (v:= .bool true) rfl rfl) ?_
    obtain rfl:=gI c
    exact zF (zB (meet ⟨(zL rfl zO),H.pick [] (by decide)⟩))
   have c:=zU h c
   refine zI (sb d) ?_
   obtain ⟨L,M,c⟩:=zD c
   refine zH (Do_sidx (s1:=d) (q:=0) u9 rfl rfl M) ?_
   obtain ⟨N,P,c⟩:=zG c
   refine zH (zQ (xR (a:=L) (b:=97) rfl rfl) P)<| zH (yN (v:= .bool N) rfl rfl) ?_
   obtain rfl:=gI c
   exact zF (zB (meet ⟨(zL rfl zO),H.pick [] (by decide)⟩))
  rintro ρ a7 H
  have c:=K
  obtain ⟨s,c,Q⟩:=zD c
  refine bW 5 [13,14,15,16,17] [(17,.bool s)] (fun wl=>Hd O w wl S []) ?_ ?_
  ·skip
   refine yS (b:=o) rfl rfl rfl (fun i=>?_) (fun i=>?_)
   ·have c:=zT i c
    refine yI ?_
    refine yI ?_
    refine yI ?_
    refine zH (yO (v:= .bool true) rfl rfl) ?_
    obtain rfl:=gI c
    exact zF (zB (meet ⟨(zL rfl zO),H.pick [] (by decide)⟩))
   have c:=zU i c
   refine zI (sb d) ?_
   obtain ⟨R,T,c⟩:=zD c
   refine zH (Do_sidx (s1:=d) (q:=0) u9 rfl rfl T) ?_
   obtain ⟨U,V,c⟩:=zG c
   refine zH (zQ (kH (a:=R) (b:=122) rfl rfl) V)<| zH (yN (v:= .bool U) rfl rfl) ?_
   obtain rfl:=gI c
   exact zF (zB (meet ⟨(zL rfl zO),H.pick [] (by decide)⟩))
  rintro ρ a8 H
  have c:=Q
  refine yS (b:=s) rfl rfl rfl (fun j=>?_) (fun j=>?_)
  ·have c:=zT j c
   refine yI ?_
   refine yI ?_
   refine zH (yO (v:= .bool true) rfl rfl) ?_
   obtain rfl:=gI c
   exact (zF (zB (meet ⟨(),(zL rfl zO),H.pick [] (by decide)⟩)))
  have c:=zU j c
  refine zI (sb d) ?_
  have X:=H
  obtain ⟨Y,Z,c⟩:=zD c
  refine yA rfl rfl (zV en144 rfl) (Fbmw d _ Z _ _ _ (H.enter [] [] (by decide) rfl)) ?_
  rintro _ a9 ⟨rfl,aa⟩
  have H:=X.step (aa.only:Only [] _ _)
  refine ⟨_,rfl,?_⟩
  refine zH (yN (v:= .bool Y) rfl rfl) ?_
  obtain rfl:=gI c
  exact (zF (zB (meet ⟨(),(zL rfl zO),H.pick [] (by decide)⟩)))
 rintro _ ρ ba H
 have c:=A
 refine yC (b:=n) rfl (fun k=>?_) (fun k=>?_)
 ·have c:=zT k c
  refine zC fun bb ab=>zA<| zK (.bool false)<| zF (zB (ab _ _ ?_))
  obtain rfl:=gI c
  refine (zY (zZ (fF (v1:= .bool false) rfl rfl ?_)))
  exact ⟨rfl,H.pick [] (by decide)⟩
 have c:=zU k c
 refine yB (zB (z _ _ ?_))
 obtain ⟨ac,ad,c⟩:=wJ c
 refine yL [2,3,22,23,24,25,26,27,28,29,30,31,32] (fun (g:Unit)=>[]) (fun g wl=>Hd O w wl S []∧ac ()=some r) ?_ ?_
 ·skip
  refine zC fun bc ae=>zA<| zI (sb d) ?_
  obtain ⟨af,ag,c⟩:=zG c
  refine zH (yJ (kD (s1:=d) u9 rfl) (congrArg (Value.int .i64) ag))<| zI (i6 0)<| zF (zB (ae _ _ ?_))
  refine yF ?_
  unfold Fdp at c
  obtain ⟨ah,t,ai,c⟩:=yR c
  refine xG [2,3,24,25,26,27,28,29,30,31,32] (fun (g:Nat×Int)=>[(24,i6 g.2)]) (fun g wl=>Hd O w wl S []∧eF ah g.1 g.2=some r) (fun g=>g.1) (t,0) (zL rfl zO) ⟨H.pick [] (by decide),c⟩ ?_
  clear H c
  rintro ⟨t,f⟩ ρ bd ⟨H,c⟩
  obtain ⟨aj,rfl,c⟩:=yX c
  have c:=yY ai c
  refine zC fun be ak=>zA ?_
  obtain ⟨al,am,c⟩:=zG c
  refine zH (zQ (xR (a:=f) (b:=af) rfl rfl) am)<| zF (zB (ak _ _ ?_))
  refine zC fun bf an=>?_
  refine yC (b:=al) rfl (fun l=>?_) (fun l=>?_)
  ·have c:=zT l c
   refine yB (zB (an _ _ ?_))
   refine zC fun bg ao=>?_
   refine yF ?_
   refine zC fun bh ap=>zA<| zI (i6 f)<| zK (i6 f)<| zF (zB (ap _ _ ?_))
   refine zC fun bi aq=>zA<| zI (sb d)<| zI (i6 f) ?_
   obtain ⟨ar,au,c⟩:=zD c
   refine zH (Do_sidx (s1:=d) (q:=f) u9 rfl rfl au) ?_
   have av:=H
   obtain ⟨aw,ax,c⟩:=zD c
   refine yA rfl rfl (zV en145 rfl) (Fbbw ar _ ax _ _ _ (H.enter [] [] (by decide) rfl)) ?_
   rintro _ bj ⟨rfl,ay⟩
   have H:=av.step (ay.only:Only [] _ _)
   refine ⟨_,rfl,?_⟩
   obtain ⟨az,a0,c⟩:=zG c
   refine zH (zQ (wL (p:=aw) rfl) a0)<| zF (zB (aq _ _ ?_))
   refine yC (b:=az) rfl (fun m=>?_) (fun m=>?_)
   ·have c:=zT m c
    refine zC fun bk a1=>zA<| zK (.bool false)<| zF (zB (a1 _ _ ?_))
    obtain rfl:=gI c
    refine (zY (yG (zZ (zZ (yG (zZ (fF (v1:= .bool false) rfl rfl ?_)))))))
    exact ⟨rfl,H.pick [] (by decide)⟩
   have c:=zU m c
   refine (yB (yK (zB (ao _ _ ?_))))
   refine zA ?_
   obtain ⟨u,a2,c⟩:=zG c
   refine zH (xQ (a:=f) (b:=1) rfl rfl a2)<| zI (i6 u) ?_
   exact (zF (zB (meet ⟨(aj,u),(zL rfl zO),⟨H.pick [] (by decide),c⟩,Nat.lt_succ_self _⟩)))
  have c:=zU l c
  exact (xK (yH (yH (yU (zB (meet ⟨(),zO,⟨H.pick [] (by decide),c⟩⟩))))))
 rintro _ ρ bl ⟨H,c⟩
 have c:=dE ad c
 refine zC fun bm a3=>zA<| zK (.bool true)<| zF (zB (a3 _ _ ?_))
 obtain rfl:=gI c
 refine (zY (fF (v1:= .bool true) rfl rfl ?_))
 exact ⟨rfl,H.pick [] (by decide)⟩
theorem Fagw (h:List Str)(f:Str)(v1:Value)(r:Int)(c:Fag h f=some r)(O S:List Nat)(w:World)(H:Hd O w w S [f1 Rp.str v1 h]):
  Cl 136 [v1,sb f] w fun e p=>e= .returned (i6 r)∧Hd O w p S []:=by
 unfold Fag at c
 refine zS 19 Tryz.func136 rfl rfl rfl ?_
 refine zC fun K3 q=>zA<| zK (i6 0)<| zF (zB (q _ _ ?_))
 obtain ⟨s,t,c⟩:=wJ c
 refine yL [4,5,6,7,8,9,10,11,12,13,14,15,16,17,18] (fun (g:Unit)=>[]) (fun g wl=>Hd O w wl S []∧s ()=some r) ?_ ?_
 ·skip
  refine zC fun ab u=>zA<| zI v1 ?_
  obtain ⟨v,x,c⟩:=zG c
  obtain ⟨ac,ad,y⟩:=SlF.len ((H.item (i:=0) rfl))
  refine zH (yJ (xN u22 y) (congrArg (Value.int .i64) x))<| zI (i6 0)<| zF (zB (u _ _ ?_))
  refine yF ?_
  unfold Fd3 at c
  obtain ⟨z,m,A,c⟩:=yR c
  refine xG [4,5,8,9,10,11,12,13,14,15,16,17,18] (fun (g:Nat×Int)=>[(8,i6 g.2)]) (fun g wl=>Hd O w wl S [f1 Rp.str v1 h]∧eF z g.1 g.2=some r) (fun g=>g.1) (m,0) (zL rfl zO) ⟨H.pick [0] (by decide),c⟩ ?_
  clear H c
  rintro ⟨m,d⟩ ρ ae ⟨H,c⟩
  obtain ⟨B,rfl,c⟩:=yX c
  have c:=yY A c
  refine zC fun af C=>zA ?_
  obtain ⟨D,E,c⟩:=zG c
  refine zH (zQ (xR (a:=d) (b:=v) rfl rfl) E)<| zF (zB (C _ _ ?_))
  refine zC fun ag F=>?_
  refine yC (b:=D) rfl (fun j=>?_) (fun j=>?_)
  ·have c:=zT j c
   refine yB (zB (F _ _ ?_))
   refine zC fun ah G=>?_
   refine yF ?_
   refine zC fun ai I=>zA<| zI (i6 d)<| zK (i6 d)<| zF (zB (I _ _ ?_))
   refine zC fun aj J=>zA<| zI (sb f)<| zI v1<| zI (i6 d) ?_
   obtain ⟨n,k,c⟩:=zD c
   obtain ⟨K,L,ak,M,N,P,Q,R,T⟩:=dQ (H.item (i:=0) rfl) k
   obtain rfl:M= [sb n]:=P
   have H:=H.fz (.at K (L+d.toNat * 1) _) ⟨Q,R,T⟩
   refine zH (xJ u22 sz9 N rfl (yE k).1 (yE k).2.1 rfl rfl)<| zH (xA bC rfl (Cells.get (H.item (i:=1) rfl).2.2 (i:=0) rfl)) ?_
   obtain ⟨U,V,c⟩:=zG c
   refine zH (zQ (wE (s1:=f) (s2:=n) rfl rfl) V)<| zF (zB (J _ _ ?_))
   refine yC (b:=U) rfl (fun l=>?_) (fun l=>?_)
   ·have c:=zT l c
    refine zC fun al X=>zA<| zI (i6 d)<| zK (i6 d)<| zF (zB (X _ _ ?_))
    obtain rfl:=gI c
    refine (zY (yG (zZ (zZ (yG (zZ (fF (v1:=i6 d) rfl rfl ?_)))))))
    exact ⟨rfl,H.pick [] (by decide)⟩
   have c:=zU l c
   refine (yB (yK (zB (G _ _ ?_))))
   refine zA ?_
   obtain ⟨o,Y,c⟩:=zG c
   refine zH (xQ (a:=d) (b:=1) rfl rfl Y)<| zI (i6 o) ?_
   exact (zF (zB (meet ⟨(B,o),(zL rfl zO),⟨H.pick [0] (by decide),c⟩,Nat.lt_succ_self _⟩)))
  have c:=zU j c
  exact (xK (yH (yH (yU (zB (meet ⟨(),zO,⟨H.pick [] (by decide),c⟩⟩))))))
 rintro _ ρ am ⟨H,c⟩
 have c:=dE t c
 refine zC fun an Z=>zA<| zK (i6 (-1))<| zF (zB (Z _ _ ?_))
 obtain rfl:=gI c
 refine (zY (fF (v1:=i6 (-1)) rfl rfl ?_))
 exact ⟨rfl,H.pick [] (by decide)⟩
theorem Faxw (f:List Str)(d:Str)(v1:Value)(r:Bool)(c:Fax f d=some r)(O S:List Nat)(w:World)(H:Hd O w w S [f1 Rp.str v1 f]):
  Cl 87 [v1,sb d] w fun e i=>e= .returned (.bool r)∧Hd O w i S []:=by
 unfold Fax at c
 refine zS 9 Tryz.func87 rfl rfl rfl ?_
 refine zC fun q j=>zA<| zK (.bool false)<| zF (zB (j _ _ ?_))
 refine zC fun s k=>zA<| zI v1<| zI (sb d) ?_
 have l:=H
 obtain ⟨m,n,c⟩:=zD c
 refine yA rfl rfl (zV en136 rfl) (Fagw f d v1 _ n _ _ _ (H.enter [] [0] (by decide) rfl)) ?_
 rintro _ t ⟨rfl,o⟩
 have H:=l.step (o.only:Only [] _ _)
 refine ⟨_,rfl,?_⟩
 obtain ⟨h,p,c⟩:=zG c
 refine zH (zQ (Do_geq (a:=m) (b:=0) rfl rfl) p)<| zK (.bool h)<| zF (zB (k _ _ ?_))
 obtain rfl:=gI c
 refine (zY (fF (v1:= .bool h) rfl rfl ?_))
 exact ⟨rfl,H.pick [] (by decide)⟩
abbrev Ffk (f:Cond→Int→Int→Option (Bool×Int)):Prop:= ∀(p0:Cond) (p1:Int) (p2:Int) (v1:Value) (b3:Nat) (r:Bool×Int) (_:f p0 p1 p2=some r) (O S:List Nat) (w:World) (_:Hd O w w S [.blk b3 [i6 p2] 3,f1 fD v1 p0.Kids]),
  Cl 80 [.agg [i6 p0.Kind,sb p0.Name,sb p0.Other,i6 p0.Op,i6 p0.N,i6 p0.Frames,v1].toArray,i6 p1,gU b3] w fun e w'=>e= .returned (.bool r.1)∧Hd O w w' S [.blk b3 [i6 r.2] 3]
end Go.Proofs.YtckmiljbaejijaaGreatDoor.L
