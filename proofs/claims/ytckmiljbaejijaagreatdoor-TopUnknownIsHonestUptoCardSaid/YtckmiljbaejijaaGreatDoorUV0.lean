/- Walks: what each function computes, for every argument; no condition but those that stand in the statements. -/
import Derived.Test.YtckmiljbaejijaaGreatDoorRows
import Derived.Test.YtckmiljbaejijaaGreatDoorUP
import Derived.Test.YtckmiljbaejijaaGreatDoorXVc
import Derived.Test.YtckmiljbaejijaaGreatDoorXVs
import Derived.Test.YtckmiljbaejijaaGreatDoorLfS
namespace Go.Proofs.YtckmiljbaejijaaGreatDoor.L
open Go.RowKit Go.OB Go.Lf
set_option maxHeartbeats 4000000
abbrev i6 (n:Int):Value:= .int .i64 n
abbrev sb (s:Str):Value:= .string (bs s)
abbrev f1 {α:Type}(r:Rp α)(v:Value)(l:List α):Th:= .fz (.sl r v l)
theorem Hbc {O S:List Nat}{a w:World}{l:List Th}{b:Nat}{T:TypeId}{cs:List Value}(H:Hd O a w S l)(i:Nat)(h:l[i]? =some (.blk b cs T)):Cells w ⟨b,0,none⟩ cs:=Blk.cells (H.item h)
theorem Hbg {O S:List Nat}{a w:World}{l:List Th}{b:Nat}{T:TypeId}{cs:List Value}{v:Value}(H:Hd O a w S l)(i j:Nat)(h:l[i]? =some (.blk b cs T))(c:cs[j]? =some v):w.cell? ⟨b,0+j,none⟩=some v:=Cells.get (Blk.cells (H.item h)) c
theorem XP {P:Program}{I:World→Prop}{N:Nat}{ops:Array Oper}{κ:List MxM.Kd}{K:MxM.Mm→Env→World→Prop}{k:Nat}{M:MxM.Mm}{σ:List Nat}{rest:List Oper}{ρ:Env}{w:World}{d:Nat}{ty:TypeId}{pos:String}{af:Array Edge}{g:Option (Nat×Bool)}{v:Value}{op:Op}(h: ∀a,I a→Do P ⟨some d,op,ty,pos,af,g⟩ ρ a v a)(n:MxM.XL P I N ops κ K M σ rest (upd ρ d v) w)(hk:MxM.kdOf κ k= .pure:=by exact rfl)(hw:eX N ops ρ ⟨some d,op,ty,pos,af,g⟩=true:=by exact rfl)(hd:Nat.blt d N=true:=by exact rfl):MxM.XL P I N ops κ K M (k :: σ) (⟨some d,op,ty,pos,af,g⟩ :: rest) ρ w:=MxM.XL_pure hk hw hd h n
theorem XO {P:Program}{I:World→Prop}{N:Nat}{ops:Array Oper}{κ:List MxM.Kd}{K:MxM.Mm→Env→World→Prop}{k:Nat}{M:MxM.Mm}{σ:List Nat}{rest:List Oper}{ρ:Env}{w:World}{d:Nat}{ty:TypeId}{pos:String}{af:Array Edge}{g:Option (Nat×Bool)}{op:Op}(n:MxM.XL P I N ops κ K M σ rest (upd ρ d undef) w)(hk:MxM.kdOf κ k= .pure:=by exact rfl)(hw:eX N ops ρ ⟨some d,op,ty,pos,af,g⟩=false:=by exact rfl)(hd:Nat.blt d N=true:=by exact rfl):MxM.XL P I N ops κ K M (k :: σ) (⟨some d,op,ty,pos,af,g⟩ :: rest) ρ w:=MxM.XL_offp hk hw hd n
theorem XM {P:Program}{I:World→Prop}{N:Nat}{ops:Array Oper}{κ:List MxM.Kd}{K:MxM.Mm→Env→World→Prop}{k:Nat}{M:MxM.Mm}{σ:List Nat}{rest:List Oper}{ρ:Env}{w:World}{d:Nat}{ty:TypeId}{pos:String}{af:Array Edge}{g:Option (Nat×Bool)}{x:Operand}(v:Value)(n:MxM.XL P I N ops κ K M σ rest (upd ρ d v) w)(hx:ev ρ x=v:=by exact rfl)(hk:MxM.kdOf κ k= .pure:=by exact rfl)(hw:eX N ops ρ ⟨some d,.move x,ty,pos,af,g⟩=true:=by exact rfl)(hd:Nat.blt d N=true:=by exact rfl):MxM.XL P I N ops κ K M (k :: σ) (⟨some d,.move x,ty,pos,af,g⟩ :: rest) ρ w:=MxM.XL_pure hk hw hd (fun _ _=>Do_move hx) n
theorem XR {P:Program}{c:World}{e:List Nat}{N:Nat}{ops:Array Oper}{κ:List MxM.Kd}{K:MxM.Mm→Env→World→Prop}{k:Nat}{M:MxM.Mm}{σ:List Nat}{rest:List Oper}{ρ:Env}{w:World}{d:Nat}{ty:TypeId}{pos:String}{af:Array Edge}{g:Option (Nat×Bool)}{t:TypeId}{x:Operand}{O S:List Nat}{f:World}{l:List Th}{b:Nat}{T:TypeId}{cs:List Value}{v:Value}(o:dO P t)(H:Hd O f w S l)(i j:Nat)(h:l[i]? =some (.blk b cs T))(m:cs[j]? =some v)(n:MxM.XL P (fun a=>Only e c a) N ops κ K M σ rest (upd ρ d v) w)(hx:ev ρ x= .pointer (some ⟨b,0+j,none⟩):=by exact rfl)(hk:MxM.kdOf κ k= .read:=by exact rfl)(hw:eX N ops ρ ⟨some d,.load t x,ty,pos,af,g⟩=true:=by exact rfl)(hd:Nat.blt d N=true:=by exact rfl):MxM.XL P (fun a=>Only e c a) N ops κ K M (k :: σ) (⟨some d,.load t x,ty,pos,af,g⟩ :: rest) ρ w:=MxM.xP oS hk hw hd (fun a p=>yX o hx (Hbg (H.sees p) i j h m)) n
theorem Ld {P:Program}{N:Nat}{ops:Array Oper}{Q:Exit→Env→World→Prop}{rest:List Oper}{ρ:Env}{w:World}{d:Nat}{t ty:TypeId}{x:Operand}{pos:String}{af:Array Edge}{g:Option (Nat×Bool)}{O S:List Nat}{a:World}{l:List Th}{b:Nat}{T:TypeId}{cs:List Value}{v:Value}(o:dO P t)(H:Hd O a w S l)(i j:Nat)(h:l[i]? =some (.blk b cs T))(c:cs[j]? =some v)(k:RL P N ops Q rest (upd ρ d v) w)(hx:ev ρ x= .pointer (some ⟨b,0+j,none⟩):=by exact rfl)(hw:eX N ops ρ ⟨some d,.load t x,ty,pos,af,g⟩=true:=by exact rfl)(hd:Nat.blt d N=true:=by exact rfl):RL P N ops Q (⟨some d,.load t x,ty,pos,af,g⟩ :: rest) ρ w:=zH (yX o hx (Hbg H i j h c)) k hw hd
theorem eG {f:FuncId}{fn:Func}(h:Tryz.prog.funcs[f]? =some fn)(a:fn.body.isSome=true:=by exact rfl)(b:(fn.name== "runtime.NumGoroutine")=false:=by kernel_rfl):Go.OB.Enters Tryz.prog f:=⟨_,h,a,b⟩
theorem u2:Tryz.prog.underlying 2=some (.int .i64):=Tryz.underlying2
theorem u3:Tryz.prog.underlying 3=some (.int .i64):=Tryz.underlying3
theorem u4:Tryz.prog.underlying 4=some .bool:=Tryz.underlying4
theorem u5:Tryz.prog.underlying 5=some (.int .u8):=Tryz.underlying5
theorem u9:Tryz.prog.underlying 9=some .string:=Tryz.underlying9
theorem u22:Tryz.prog.underlying 22=some (.slice 9):=Tryz.underlying22
theorem u23:Tryz.prog.underlying 23=some (.slice 122):=Tryz.underlying23
theorem u24:Tryz.prog.underlying 24=some (.slice 95):=Tryz.underlying24
theorem u27:Tryz.prog.underlying 27=some (.slice 37):=Tryz.underlying27
theorem u28:Tryz.prog.underlying 28=some (.slice 38):=Tryz.underlying28
theorem u33:Tryz.prog.underlying 33=some (.slice 40):=Tryz.underlying33
theorem u38:Tryz.prog.underlying 38=some (.slice 3):=Tryz.underlying38
theorem u41:Tryz.prog.underlying 41=some (.slice 22):=Tryz.underlying41
theorem u55:Tryz.prog.underlying 55=some (.slice 148):=Tryz.underlying55
theorem u68:Tryz.prog.underlying 68=some (.slice 70):=Tryz.underlying68
theorem u96:Tryz.prog.underlying 96=some (.int .u16):=Tryz.underlying96
theorem u98:Tryz.prog.underlying 98=some (.array 64 96):=Tryz.underlying98
theorem u142:Tryz.prog.underlying 142=some (.slice 172):=Tryz.underlying142
theorem u143:Tryz.prog.underlying 143=some (.slice 170):=Tryz.underlying143
theorem u144:Tryz.prog.underlying 144=some (.slice 4):=Tryz.underlying144
theorem u163:Tryz.prog.underlying 163=some (.map 9 3):=Tryz.underlying163
theorem u199:Tryz.prog.underlying 199=some (.int .u64):=Tryz.underlying199
theorem u243:Tryz.prog.underlying 243=some (.array 3 3):=Tryz.underlying243
theorem u264:Tryz.prog.underlying 264=some (.array 4 96):=Tryz.underlying264
theorem u297:Tryz.prog.underlying 297=some (.int .u64):=Tryz.underlying297
theorem sz3:Sz Tryz.prog 3 1:=by unfold Sz; kernel_rfl
theorem sz4:Sz Tryz.prog 4 1:=by unfold Sz; kernel_rfl
theorem sz9:Sz Tryz.prog 9 1:=by unfold Sz; kernel_rfl
theorem sz22:Sz Tryz.prog 22 1:=by unfold Sz; kernel_rfl
theorem sz26:Sz Tryz.prog 26 3:=by unfold Sz; kernel_rfl
theorem sz28:Sz Tryz.prog 28 1:=by unfold Sz; kernel_rfl
theorem sz33:Sz Tryz.prog 33 1:=by unfold Sz; kernel_rfl
theorem sz35:Sz Tryz.prog 35 2:=by unfold Sz; kernel_rfl
theorem sz37:Sz Tryz.prog 37 4:=by unfold Sz; kernel_rfl
theorem sz38:Sz Tryz.prog 38 1:=by unfold Sz; kernel_rfl
theorem sz40:Sz Tryz.prog 40 3:=by unfold Sz; kernel_rfl
theorem sz41:Sz Tryz.prog 41 1:=by unfold Sz; kernel_rfl
theorem sz48:Sz Tryz.prog 48 1:=by unfold Sz; kernel_rfl
theorem sz55:Sz Tryz.prog 55 1:=by unfold Sz; kernel_rfl
theorem bK:Sz Tryz.prog 70 7:=by unfold Sz; kernel_rfl
theorem sz95:Sz Tryz.prog 95 8:=by unfold Sz; kernel_rfl
theorem sz96:Sz Tryz.prog 96 1:=by unfold Sz; kernel_rfl
theorem sz98:Sz Tryz.prog 98 64:=by unfold Sz; kernel_rfl
theorem sz122:Sz Tryz.prog 122 9:=by unfold Sz; kernel_rfl
theorem sz142:Sz Tryz.prog 142 1:=by unfold Sz; kernel_rfl
theorem sz143:Sz Tryz.prog 143 1:=by unfold Sz; kernel_rfl
theorem sz144:Sz Tryz.prog 144 1:=by unfold Sz; kernel_rfl
theorem sz148:Sz Tryz.prog 148 2:=by unfold Sz; kernel_rfl
theorem sz170:Sz Tryz.prog 170 1:=by unfold Sz; kernel_rfl
theorem sz172:Sz Tryz.prog 172 3:=by unfold Sz; kernel_rfl
theorem aB:Sz Tryz.prog 226 7:=by unfold Sz; kernel_rfl
theorem sz243:Sz Tryz.prog 243 3:=by unfold Sz; kernel_rfl
theorem fU:dO Tryz.prog 3:=by unfold dO; kernel_rfl
theorem one4:dO Tryz.prog 4:=by unfold dO; kernel_rfl
theorem bW:dO Tryz.prog 9:=by unfold dO; kernel_rfl
theorem aN:dO Tryz.prog 22:=by unfold dO; kernel_rfl
theorem one23:dO Tryz.prog 23:=by unfold dO; kernel_rfl
theorem one24:dO Tryz.prog 24:=by unfold dO; kernel_rfl
theorem one28:dO Tryz.prog 28:=by unfold dO; kernel_rfl
theorem one33:dO Tryz.prog 33:=by unfold dO; kernel_rfl
theorem kL:dO Tryz.prog 38:=by unfold dO; kernel_rfl
theorem one41:dO Tryz.prog 41:=by unfold dO; kernel_rfl
theorem one48:dO Tryz.prog 48:=by unfold dO; kernel_rfl
theorem one55:dO Tryz.prog 55:=by unfold dO; kernel_rfl
theorem one68:dO Tryz.prog 68:=by unfold dO; kernel_rfl
theorem one96:dO Tryz.prog 96:=by unfold dO; kernel_rfl
theorem one142:dO Tryz.prog 142:=by unfold dO; kernel_rfl
theorem one143:dO Tryz.prog 143:=by unfold dO; kernel_rfl
theorem one144:dO Tryz.prog 144:=by unfold dO; kernel_rfl
theorem one163:dO Tryz.prog 163:=by unfold dO; kernel_rfl
theorem kD:dO Tryz.prog 170:=by unfold dO; kernel_rfl
theorem agg26:Agg Tryz.prog 26:=by unfold Agg; kernel_rfl
theorem agg35:Agg Tryz.prog 35:=by unfold Agg; kernel_rfl
theorem agg37:Agg Tryz.prog 37:=by unfold Agg; kernel_rfl
theorem agg40:Agg Tryz.prog 40:=by unfold Agg; kernel_rfl
theorem bD:Agg Tryz.prog 70:=by unfold Agg; kernel_rfl
theorem agg95:Agg Tryz.prog 95:=by unfold Agg; kernel_rfl
theorem agg98:Agg Tryz.prog 98:=by unfold Agg; kernel_rfl
theorem agg122:Agg Tryz.prog 122:=by unfold Agg; kernel_rfl
theorem agg148:Agg Tryz.prog 148:=by unfold Agg; kernel_rfl
theorem agg172:Agg Tryz.prog 172:=by unfold Agg; kernel_rfl
theorem agg226:Agg Tryz.prog 226:=by unfold Agg; kernel_rfl
theorem agg243:Agg Tryz.prog 243:=by unfold Agg; kernel_rfl
theorem zero3:Go.OB.Zero Tryz.prog 3 ([i6 0]):=by unfold Go.OB.Zero; kernel_rfl
theorem zero9:Go.OB.Zero Tryz.prog 9 ([.string (bs [])]):=by unfold Go.OB.Zero; kernel_rfl
theorem zero22:Go.OB.Zero Tryz.prog 22 ([.slice none 0 0]):=by unfold Go.OB.Zero; kernel_rfl
theorem zero28:Go.OB.Zero Tryz.prog 28 ([.slice none 0 0]):=by unfold Go.OB.Zero; kernel_rfl
theorem zero37:Go.OB.Zero Tryz.prog 37 ([.string (bs []),i6 0,.slice none 0 0,i6 0]):=by unfold Go.OB.Zero; kernel_rfl
theorem zero40:Go.OB.Zero Tryz.prog 40 ([i6 0,i6 0,i6 0]):=by unfold Go.OB.Zero; kernel_rfl
theorem zero41:Go.OB.Zero Tryz.prog 41 ([.slice none 0 0]):=by unfold Go.OB.Zero; kernel_rfl
theorem zero48:Go.OB.Zero Tryz.prog 48 ([.nilFunc]):=by unfold Go.OB.Zero; kernel_rfl
theorem zero70:Go.OB.Zero Tryz.prog 70 ([i6 0,.string (bs []),.string (bs []),i6 0,i6 0,i6 0,.slice none 0 0]):=by unfold Go.OB.Zero; kernel_rfl
theorem zero95:Go.OB.Zero Tryz.prog 95 ([.string (bs []),i6 0,.string (bs []),.string (bs []),i6 0,i6 0,i6 0,.slice none 0 0]):=by unfold Go.OB.Zero; kernel_rfl
theorem zero98:Go.OB.Zero Tryz.prog 98 ((Fl.arr 64 (Fl.int .u16)).f (Arr.rep 64 0:Arr 64 Int)):=by unfold Go.OB.Zero; kernel_rfl
theorem zero122:Go.OB.Zero Tryz.prog 122 ([.string (bs []),.string (bs []),i6 0,.string (bs []),.string (bs []),i6 0,i6 0,i6 0,.slice none 0 0]):=by unfold Go.OB.Zero; kernel_rfl
theorem zero148:Go.OB.Zero Tryz.prog 148 ([i6 0,.bool false]):=by unfold Go.OB.Zero; kernel_rfl
theorem zero172:Go.OB.Zero Tryz.prog 172 ([i6 0,i6 0,.nilIface]):=by unfold Go.OB.Zero; kernel_rfl
theorem zero226:Go.OB.Zero Tryz.prog 226 ([.bool false,.bool false,.bool false,.bool false,.bool false,i6 0,i6 0]):=by unfold Go.OB.Zero; kernel_rfl
theorem zero243:Go.OB.Zero Tryz.prog 243 ((Fl.arr 3 (Fl.int .i64)).f (Arr.rep 3 0:Arr 3 Int)):=by unfold Go.OB.Zero; kernel_rfl
theorem el3:El Tryz.prog 3 1 8 ([i6 0]):=⟨by kernel_rfl,by kernel_rfl,by kernel_rfl,by decide,by decide⟩
theorem el4:El Tryz.prog 4 1 1 ([.bool false]):=⟨by kernel_rfl,by kernel_rfl,by kernel_rfl,by decide,by decide⟩
theorem el9:El Tryz.prog 9 1 16 ([.string (bs [])]):=⟨by kernel_rfl,by kernel_rfl,by kernel_rfl,by decide,by decide⟩
theorem el22:El Tryz.prog 22 1 24 ([.slice none 0 0]):=⟨by kernel_rfl,by kernel_rfl,by kernel_rfl,by decide,by decide⟩
theorem el37:El Tryz.prog 37 4 56 ([.string (bs []),i6 0,.slice none 0 0,i6 0]):=⟨by kernel_rfl,by kernel_rfl,by kernel_rfl,by decide,by decide⟩
theorem el38:El Tryz.prog 38 1 24 ([.slice none 0 0]):=⟨by kernel_rfl,by kernel_rfl,by kernel_rfl,by decide,by decide⟩
theorem el40:El Tryz.prog 40 3 24 ([i6 0,i6 0,i6 0]):=⟨by kernel_rfl,by kernel_rfl,by kernel_rfl,by decide,by decide⟩
theorem el148:El Tryz.prog 148 2 16 ([i6 0,.bool false]):=⟨by kernel_rfl,by kernel_rfl,by kernel_rfl,by decide,by decide⟩
theorem el170:El Tryz.prog 170 1 16 ([.nilIface]):=⟨by kernel_rfl,by kernel_rfl,by kernel_rfl,by decide,by decide⟩
theorem el172:El Tryz.prog 172 3 32 ([i6 0,i6 0,.nilIface]):=⟨by kernel_rfl,by kernel_rfl,by kernel_rfl,by decide,by decide⟩
theorem bz40:Tryz.prog.built 40 []=some ([i6 0,i6 0,i6 0]).toArray:=by kernel_rfl
theorem bz98:Tryz.prog.built 98 []=some ((Fl.arr 64 (Fl.int .u16)).f (Arr.rep 64 0:Arr 64 Int)).toArray:=by kernel_rfl
theorem bz226:Tryz.prog.built 226 []=some ([.bool false,.bool false,.bool false,.bool false,.bool false,i6 0,i6 0]).toArray:=by kernel_rfl
theorem bt40_0 (a:Int):Tryz.prog.built 40 [(0,i6 a)]=some [i6 a,i6 0,i6 0].toArray:=by kernel_rfl
theorem bt146_0_1_4 (a:Option Addr)(b c:Nat)(d:Int)(e:Option Addr)(f h:Nat):Tryz.prog.built 146 [(0,.slice a b c),(1,i6 d),(4,.slice e f h)]=some [.slice a b c,i6 d,.slice none 0 0,.slice none 0 0,.slice e f h].toArray:=by kernel_rfl
theorem bt148_0_1 (a:Int)(b:Bool):Tryz.prog.built 148 [(0,i6 a),(1,.bool b)]=some [i6 a,.bool b].toArray:=by kernel_rfl
theorem bt172_0_1_2 (a:Int)(b:Int)(a2T:TypeId)(c:Value):Tryz.prog.built 172 [(0,i6 a),(1,i6 b),(2,.iface a2T c)]=some [i6 a,i6 b,.iface a2T c].toArray:=by kernel_rfl
theorem bt215_0_2_3 (a:Option Nat)(b:Option Addr)(c d:Nat)(e:Option Nat):Tryz.prog.built 215 [(0,.map a),(2,.slice b c d),(3,.map e)]=some [.map a,.slice none 0 0,.slice b c d,.map e].toArray:=by kernel_rfl
theorem bt222_0 (a:Option Addr)(b c:Nat):Tryz.prog.built 222 [(0,.slice a b c)]=some [.slice a b c,.slice none 0 0,.slice none 0 0].toArray:=by kernel_rfl
theorem bt226_0 (a:Bool):Tryz.prog.built 226 [(0,.bool a)]=some [.bool a,.bool false,.bool false,.bool false,.bool false,i6 0,i6 0].toArray:=by kernel_rfl
theorem bt226_0_1_2 (a:Bool)(b:Bool)(c:Bool):Tryz.prog.built 226 [(0,.bool a),(1,.bool b),(2,.bool c)]=some [.bool a,.bool b,.bool c,.bool false,.bool false,i6 0,i6 0].toArray:=by kernel_rfl
theorem bt226_0_2_3 (a:Bool)(b:Bool)(c:Bool):Tryz.prog.built 226 [(0,.bool a),(2,.bool b),(3,.bool c)]=some [.bool a,.bool false,.bool b,.bool c,.bool false,i6 0,i6 0].toArray:=by kernel_rfl
theorem bt226_0_3_4 (a:Bool)(b:Bool)(c:Bool):Tryz.prog.built 226 [(0,.bool a),(3,.bool b),(4,.bool c)]=some [.bool a,.bool false,.bool false,.bool b,.bool c,i6 0,i6 0].toArray:=by kernel_rfl
theorem bt226_3_4_5_6 (a:Bool)(b:Bool)(c:Int)(d:Int):Tryz.prog.built 226 [(3,.bool a),(4,.bool b),(5,i6 c),(6,i6 d)]=some [.bool false,.bool false,.bool false,.bool a,.bool b,i6 c,i6 d].toArray:=by kernel_rfl
theorem bt226_4_5_6 (a:Bool)(b:Int)(c:Int):Tryz.prog.built 226 [(4,.bool a),(5,i6 b),(6,i6 c)]=some [.bool false,.bool false,.bool false,.bool false,.bool a,i6 b,i6 c].toArray:=by kernel_rfl
theorem bt226_5_6 (a:Int)(b:Int):Tryz.prog.built 226 [(5,i6 a),(6,i6 b)]=some [.bool false,.bool false,.bool false,.bool false,.bool false,i6 a,i6 b].toArray:=by kernel_rfl
theorem bt241_0_1_2 (a:Int)(b:Int)(c:Int):Tryz.prog.built 241 [(0,i6 a),(1,i6 b),(2,i6 c)]=some [i6 a,i6 b,i6 c,.slice none 0 0].toArray:=by kernel_rfl
theorem bt245_0_1_2 (a0T:TypeId)(a:Value)(b:Int)(c:Int):Tryz.prog.built 245 [(0,.iface a0T a),(1,i6 b),(2,i6 c)]=some [.iface a0T a,i6 b,i6 c,.slice none 0 0,i6 0,i6 0,i6 0].toArray:=by kernel_rfl
theorem bt248_0 (a0T:TypeId)(a:Value):Tryz.prog.built 248 [(0,.iface a0T a)]=some [.iface a0T a].toArray:=by kernel_rfl
theorem bt251_0_1 (a:Option Addr)(b c:Nat)(d:Bool):Tryz.prog.built 251 [(0,.slice a b c),(1,.bool d)]=some [.slice a b c,.bool d].toArray:=by kernel_rfl
theorem bt255_0_1 (a0T:TypeId)(a:Value)(a1T:TypeId)(b:Value):Tryz.prog.built 255 [(0,.iface a0T a),(1,.iface a1T b)]=some [.iface a0T a,.iface a1T b,i6 0,.bool false].toArray:=by kernel_rfl
theorem bt258_0 (a0T:TypeId)(a:Value):Tryz.prog.built 258 [(0,.iface a0T a)]=some [.iface a0T a,i6 0,.bool false].toArray:=by kernel_rfl
theorem bt277_0 (a:Int):Tryz.prog.built 277 [(0,i6 a)]=some [i6 a].toArray:=by kernel_rfl
theorem bt279_0_1_2 (a:Int)(b:Int)(c:Int):Tryz.prog.built 279 [(0,i6 a),(1,i6 b),(2,i6 c)]=some [i6 a,i6 b,i6 c].toArray:=by kernel_rfl
theorem bt281_0_1_2_3_4 (a:Int)(b:Int)(c:Int)(d:Int)(e:Int):Tryz.prog.built 281 [(0,i6 a),(1,i6 b),(2,i6 c),(3,i6 d),(4,i6 e)]=some [i6 a,i6 b,i6 c,i6 d,i6 e].toArray:=by kernel_rfl
theorem bt283_0 (a:Int):Tryz.prog.built 283 [(0,i6 a)]=some [i6 a].toArray:=by kernel_rfl
theorem bt285_0 (a:Int):Tryz.prog.built 285 [(0,i6 a)]=some [i6 a].toArray:=by kernel_rfl
abbrev gW (b:Nat):Value:= .pointer (some ⟨b,0,none⟩)
abbrev fM:=Rt.row eF 172 []
abbrev fK:=Rt.row fC 170 []
def FAt (t i m:Nat):Prop:= ∀{ρ:Env} {w:World} {d:Option Tmp} {x:Operand} {ty:TypeId} {pos:String} {af:Array Edge} {g:Option (Nat×Bool)} {b o:Nat} (_:ev ρ x= .pointer (some ⟨b,o,none⟩)),Do Tryz.prog ⟨d,.fieldAddr t x i,ty,pos,af,g⟩ ρ w (.pointer (some ⟨b,o+m,none⟩)) w
theorem fa26_0:FAt 26 0 0:=fun hx=>zV (n:=1) (m:=0) (by kernel_rfl) (by decide) hx
theorem fa26_1:FAt 26 1 1:=fun hx=>zV (n:=1) (m:=1) (by kernel_rfl) (by decide) hx
theorem fa26_2:FAt 26 2 2:=fun hx=>zV (n:=1) (m:=2) (by kernel_rfl) (by decide) hx
theorem fa35_0:FAt 35 0 0:=fun hx=>zV (n:=1) (m:=0) (by kernel_rfl) (by decide) hx
theorem fa35_1:FAt 35 1 1:=fun hx=>zV (n:=1) (m:=1) (by kernel_rfl) (by decide) hx
theorem fa37_0:FAt 37 0 0:=fun hx=>zV (n:=1) (m:=0) (by kernel_rfl) (by decide) hx
theorem fa37_1:FAt 37 1 1:=fun hx=>zV (n:=2) (m:=1) (by kernel_rfl) (by decide) hx
theorem fa37_2:FAt 37 2 3:=fun hx=>zV (n:=1) (m:=3) (by kernel_rfl) (by decide) hx
theorem fa40_0:FAt 40 0 0:=fun hx=>zV (n:=1) (m:=0) (by kernel_rfl) (by decide) hx
theorem fa40_1:FAt 40 1 1:=fun hx=>zV (n:=1) (m:=1) (by kernel_rfl) (by decide) hx
theorem fa40_2:FAt 40 2 2:=fun hx=>zV (n:=1) (m:=2) (by kernel_rfl) (by decide) hx
theorem fa70_0:FAt 70 0 0:=fun hx=>zV (n:=1) (m:=0) (by kernel_rfl) (by decide) hx
theorem fa70_1:FAt 70 1 1:=fun hx=>zV (n:=1) (m:=1) (by kernel_rfl) (by decide) hx
theorem fa70_2:FAt 70 2 2:=fun hx=>zV (n:=1) (m:=2) (by kernel_rfl) (by decide) hx
theorem fa70_3:FAt 70 3 3:=fun hx=>zV (n:=1) (m:=3) (by kernel_rfl) (by decide) hx
theorem fa70_4:FAt 70 4 4:=fun hx=>zV (n:=1) (m:=4) (by kernel_rfl) (by decide) hx
theorem fa70_5:FAt 70 5 5:=fun hx=>zV (n:=1) (m:=5) (by kernel_rfl) (by decide) hx
theorem fa70_6:FAt 70 6 6:=fun hx=>zV (n:=1) (m:=6) (by kernel_rfl) (by decide) hx
theorem fa95_0:FAt 95 0 0:=fun hx=>zV (n:=1) (m:=0) (by kernel_rfl) (by decide) hx
theorem fa95_1:FAt 95 1 1:=fun hx=>zV (n:=7) (m:=1) (by kernel_rfl) (by decide) hx
theorem fa122_0:FAt 122 0 0:=fun hx=>zV (n:=1) (m:=0) (by kernel_rfl) (by decide) hx
theorem fa122_1:FAt 122 1 1:=fun hx=>zV (n:=1) (m:=1) (by kernel_rfl) (by decide) hx
theorem fa122_2:FAt 122 2 2:=fun hx=>zV (n:=7) (m:=2) (by kernel_rfl) (by decide) hx
theorem fa146_0:FAt 146 0 0:=fun hx=>zV (n:=1) (m:=0) (by kernel_rfl) (by decide) hx
theorem fa146_2:FAt 146 2 2:=fun hx=>zV (n:=1) (m:=2) (by kernel_rfl) (by decide) hx
theorem fa146_3:FAt 146 3 3:=fun hx=>zV (n:=1) (m:=3) (by kernel_rfl) (by decide) hx
theorem fa146_4:FAt 146 4 4:=fun hx=>zV (n:=1) (m:=4) (by kernel_rfl) (by decide) hx
theorem fa148_0:FAt 148 0 0:=fun hx=>zV (n:=1) (m:=0) (by kernel_rfl) (by decide) hx
theorem fa148_1:FAt 148 1 1:=fun hx=>zV (n:=1) (m:=1) (by kernel_rfl) (by decide) hx
theorem fa172_0:FAt 172 0 0:=fun hx=>zV (n:=1) (m:=0) (by kernel_rfl) (by decide) hx
theorem fa172_1:FAt 172 1 1:=fun hx=>zV (n:=1) (m:=1) (by kernel_rfl) (by decide) hx
theorem fa172_2:FAt 172 2 2:=fun hx=>zV (n:=1) (m:=2) (by kernel_rfl) (by decide) hx
theorem fa215_0:FAt 215 0 0:=fun hx=>zV (n:=1) (m:=0) (by kernel_rfl) (by decide) hx
theorem fa215_1:FAt 215 1 1:=fun hx=>zV (n:=1) (m:=1) (by kernel_rfl) (by decide) hx
theorem fa215_2:FAt 215 2 2:=fun hx=>zV (n:=1) (m:=2) (by kernel_rfl) (by decide) hx
theorem fa215_3:FAt 215 3 3:=fun hx=>zV (n:=1) (m:=3) (by kernel_rfl) (by decide) hx
theorem fa222_0:FAt 222 0 0:=fun hx=>zV (n:=1) (m:=0) (by kernel_rfl) (by decide) hx
theorem fa222_1:FAt 222 1 1:=fun hx=>zV (n:=1) (m:=1) (by kernel_rfl) (by decide) hx
theorem fa222_2:FAt 222 2 2:=fun hx=>zV (n:=1) (m:=2) (by kernel_rfl) (by decide) hx
theorem fa226_0:FAt 226 0 0:=fun hx=>zV (n:=1) (m:=0) (by kernel_rfl) (by decide) hx
theorem fa226_1:FAt 226 1 1:=fun hx=>zV (n:=1) (m:=1) (by kernel_rfl) (by decide) hx
theorem fa226_2:FAt 226 2 2:=fun hx=>zV (n:=1) (m:=2) (by kernel_rfl) (by decide) hx
theorem fa226_3:FAt 226 3 3:=fun hx=>zV (n:=1) (m:=3) (by kernel_rfl) (by decide) hx
theorem fa226_4:FAt 226 4 4:=fun hx=>zV (n:=1) (m:=4) (by kernel_rfl) (by decide) hx
theorem fa226_5:FAt 226 5 5:=fun hx=>zV (n:=1) (m:=5) (by kernel_rfl) (by decide) hx
theorem fa226_6:FAt 226 6 6:=fun hx=>zV (n:=1) (m:=6) (by kernel_rfl) (by decide) hx
theorem fa241_0:FAt 241 0 0:=fun hx=>zV (n:=1) (m:=0) (by kernel_rfl) (by decide) hx
theorem fa241_1:FAt 241 1 1:=fun hx=>zV (n:=1) (m:=1) (by kernel_rfl) (by decide) hx
theorem fa241_2:FAt 241 2 2:=fun hx=>zV (n:=1) (m:=2) (by kernel_rfl) (by decide) hx
theorem fa241_3:FAt 241 3 3:=fun hx=>zV (n:=1) (m:=3) (by kernel_rfl) (by decide) hx
theorem fa245_0:FAt 245 0 0:=fun hx=>zV (n:=1) (m:=0) (by kernel_rfl) (by decide) hx
theorem fa245_1:FAt 245 1 1:=fun hx=>zV (n:=1) (m:=1) (by kernel_rfl) (by decide) hx
theorem fa245_2:FAt 245 2 2:=fun hx=>zV (n:=1) (m:=2) (by kernel_rfl) (by decide) hx
theorem fa245_3:FAt 245 3 3:=fun hx=>zV (n:=1) (m:=3) (by kernel_rfl) (by decide) hx
theorem fa245_4:FAt 245 4 4:=fun hx=>zV (n:=3) (m:=4) (by kernel_rfl) (by decide) hx
theorem fa248_0:FAt 248 0 0:=fun hx=>zV (n:=1) (m:=0) (by kernel_rfl) (by decide) hx
theorem fa251_0:FAt 251 0 0:=fun hx=>zV (n:=1) (m:=0) (by kernel_rfl) (by decide) hx
theorem fa251_1:FAt 251 1 1:=fun hx=>zV (n:=1) (m:=1) (by kernel_rfl) (by decide) hx
theorem fa255_0:FAt 255 0 0:=fun hx=>zV (n:=1) (m:=0) (by kernel_rfl) (by decide) hx
theorem fa255_1:FAt 255 1 1:=fun hx=>zV (n:=1) (m:=1) (by kernel_rfl) (by decide) hx
theorem fa255_2:FAt 255 2 2:=fun hx=>zV (n:=1) (m:=2) (by kernel_rfl) (by decide) hx
theorem fa255_3:FAt 255 3 3:=fun hx=>zV (n:=1) (m:=3) (by kernel_rfl) (by decide) hx
theorem fa258_0:FAt 258 0 0:=fun hx=>zV (n:=1) (m:=0) (by kernel_rfl) (by decide) hx
theorem fa258_1:FAt 258 1 1:=fun hx=>zV (n:=1) (m:=1) (by kernel_rfl) (by decide) hx
theorem fa258_2:FAt 258 2 2:=fun hx=>zV (n:=1) (m:=2) (by kernel_rfl) (by decide) hx
theorem fa277_0:FAt 277 0 0:=fun hx=>zV (n:=1) (m:=0) (by kernel_rfl) (by decide) hx
theorem fa279_0:FAt 279 0 0:=fun hx=>zV (n:=1) (m:=0) (by kernel_rfl) (by decide) hx
theorem fa279_1:FAt 279 1 1:=fun hx=>zV (n:=1) (m:=1) (by kernel_rfl) (by decide) hx
theorem fa279_2:FAt 279 2 2:=fun hx=>zV (n:=1) (m:=2) (by kernel_rfl) (by decide) hx
theorem fa281_0:FAt 281 0 0:=fun hx=>zV (n:=1) (m:=0) (by kernel_rfl) (by decide) hx
theorem fa281_1:FAt 281 1 1:=fun hx=>zV (n:=1) (m:=1) (by kernel_rfl) (by decide) hx
theorem fa281_2:FAt 281 2 2:=fun hx=>zV (n:=1) (m:=2) (by kernel_rfl) (by decide) hx
theorem fa281_3:FAt 281 3 3:=fun hx=>zV (n:=1) (m:=3) (by kernel_rfl) (by decide) hx
theorem fa281_4:FAt 281 4 4:=fun hx=>zV (n:=1) (m:=4) (by kernel_rfl) (by decide) hx
theorem fa283_0:FAt 283 0 0:=fun hx=>zV (n:=1) (m:=0) (by kernel_rfl) (by decide) hx
theorem fa285_0:FAt 285 0 0:=fun hx=>zV (n:=1) (m:=0) (by kernel_rfl) (by decide) hx
theorem en14:Go.OB.Enters Tryz.prog 14:=eG Tryz.func14
theorem en15:Go.OB.Enters Tryz.prog 15:=eG Tryz.func15
theorem en16:Go.OB.Enters Tryz.prog 16:=eG Tryz.func16
theorem en27:Go.OB.Enters Tryz.prog 27:=eG Tryz.func27
theorem en29:Go.OB.Enters Tryz.prog 29:=eG Tryz.func29
theorem en31:Go.OB.Enters Tryz.prog 31:=eG Tryz.func31
theorem en52:Go.OB.Enters Tryz.prog 52:=eG Tryz.func52
theorem en53:Go.OB.Enters Tryz.prog 53:=eG Tryz.func53
theorem en54:Go.OB.Enters Tryz.prog 54:=eG Tryz.func54
theorem en55:Go.OB.Enters Tryz.prog 55:=eG Tryz.func55
theorem en73:Go.OB.Enters Tryz.prog 73:=eG Tryz.func73
theorem en74:Go.OB.Enters Tryz.prog 74:=eG Tryz.func74
theorem en75:Go.OB.Enters Tryz.prog 75:=eG Tryz.func75
theorem en76:Go.OB.Enters Tryz.prog 76:=eG Tryz.func76
theorem en77:Go.OB.Enters Tryz.prog 77:=eG Tryz.func77
theorem en78:Go.OB.Enters Tryz.prog 78:=eG Tryz.func78
theorem en80:Go.OB.Enters Tryz.prog 80:=eG Tryz.func80
theorem en81:Go.OB.Enters Tryz.prog 81:=eG Tryz.func81
theorem en82:Go.OB.Enters Tryz.prog 82:=eG Tryz.func82
theorem en86:Go.OB.Enters Tryz.prog 86:=eG Tryz.func86
theorem en87:Go.OB.Enters Tryz.prog 87:=eG Tryz.func87
theorem en88:Go.OB.Enters Tryz.prog 88:=eG Tryz.func88
theorem en89:Go.OB.Enters Tryz.prog 89:=eG Tryz.func89
theorem en95:Go.OB.Enters Tryz.prog 95:=eG Tryz.func95
theorem en100:Go.OB.Enters Tryz.prog 100:=eG Tryz.func100
theorem en116:Go.OB.Enters Tryz.prog 116:=eG Tryz.func116
theorem en117:Go.OB.Enters Tryz.prog 117:=eG Tryz.func117
theorem en134:Go.OB.Enters Tryz.prog 134:=eG Tryz.func134
theorem en135:Go.OB.Enters Tryz.prog 135:=eG Tryz.func135
theorem en136:Go.OB.Enters Tryz.prog 136:=eG Tryz.func136
theorem en137:Go.OB.Enters Tryz.prog 137:=eG Tryz.func137
theorem en138:Go.OB.Enters Tryz.prog 138:=eG Tryz.func138
theorem en139:Go.OB.Enters Tryz.prog 139:=eG Tryz.func139
theorem en140:Go.OB.Enters Tryz.prog 140:=eG Tryz.func140
theorem en141:Go.OB.Enters Tryz.prog 141:=eG Tryz.func141
theorem en142:Go.OB.Enters Tryz.prog 142:=eG Tryz.func142
theorem en144:Go.OB.Enters Tryz.prog 144:=eG Tryz.func144
theorem en145:Go.OB.Enters Tryz.prog 145:=eG Tryz.func145
theorem en146:Go.OB.Enters Tryz.prog 146:=eG Tryz.func146
theorem en147:Go.OB.Enters Tryz.prog 147:=eG Tryz.func147
theorem en148:Go.OB.Enters Tryz.prog 148:=eG Tryz.func148
theorem en149:Go.OB.Enters Tryz.prog 149:=eG Tryz.func149
theorem en150:Go.OB.Enters Tryz.prog 150:=eG Tryz.func150
theorem en152:Go.OB.Enters Tryz.prog 152:=eG Tryz.func152
theorem en153:Go.OB.Enters Tryz.prog 153:=eG Tryz.func153
theorem en155:Go.OB.Enters Tryz.prog 155:=eG Tryz.func155
theorem en170:Go.OB.Enters Tryz.prog 170:=eG Tryz.func170
theorem en171:Go.OB.Enters Tryz.prog 171:=eG Tryz.func171
theorem en172:Go.OB.Enters Tryz.prog 172:=eG Tryz.func172
theorem en173:Go.OB.Enters Tryz.prog 173:=eG Tryz.func173
theorem en189:Go.OB.Enters Tryz.prog 189:=eG Tryz.func189
theorem en190:Go.OB.Enters Tryz.prog 190:=eG Tryz.func190
theorem en191:Go.OB.Enters Tryz.prog 191:=eG Tryz.func191
theorem en192:Go.OB.Enters Tryz.prog 192:=eG Tryz.func192
theorem en194:Go.OB.Enters Tryz.prog 194:=eG Tryz.func194
theorem en196:Go.OB.Enters Tryz.prog 196:=eG Tryz.func196
theorem en210:Go.OB.Enters Tryz.prog 210:=eG Tryz.func210
theorem en211:Go.OB.Enters Tryz.prog 211:=eG Tryz.func211
theorem en226:Go.OB.Enters Tryz.prog 226:=eG Tryz.func226
theorem en227:Go.OB.Enters Tryz.prog 227:=eG Tryz.func227
theorem en228:Go.OB.Enters Tryz.prog 228:=eG Tryz.func228
theorem en261:Go.OB.Enters Tryz.prog 261:=eG Tryz.func261
theorem en262:Go.OB.Enters Tryz.prog 262:=eG Tryz.func262
theorem en270:Go.OB.Enters Tryz.prog 270:=eG Tryz.func270
theorem en310:Go.OB.Enters Tryz.prog 310:=eG Tryz.func310
theorem en313:Go.OB.Enters Tryz.prog 313:=eG Tryz.func313
theorem en316:Go.OB.Enters Tryz.prog 316:=eG Tryz.func316
theorem en317:Go.OB.Enters Tryz.prog 317:=eG Tryz.func317
theorem en319:Go.OB.Enters Tryz.prog 319:=eG Tryz.func319
theorem en321:Go.OB.Enters Tryz.prog 321:=eG Tryz.func321
theorem en323:Go.OB.Enters Tryz.prog 323:=eG Tryz.func323
theorem en325:Go.OB.Enters Tryz.prog 325:=eG Tryz.func325
theorem en327:Go.OB.Enters Tryz.prog 327:=eG Tryz.func327
theorem en328:Go.OB.Enters Tryz.prog 328:=eG Tryz.func328
theorem en329:Go.OB.Enters Tryz.prog 329:=eG Tryz.func329
theorem en330:Go.OB.Enters Tryz.prog 330:=eG Tryz.func330
theorem en332:Go.OB.Enters Tryz.prog 332:=eG Tryz.func332
theorem en333:Go.OB.Enters Tryz.prog 333:=eG Tryz.func333
theorem en335:Go.OB.Enters Tryz.prog 335:=eG Tryz.func335
theorem en337:Go.OB.Enters Tryz.prog 337:=eG Tryz.func337
theorem mixed:Tryz.prog.follows .mixedOrders=true:=by kernel_rfl
theorem Fdvw (d:Int)(r:Int)(c:Fdv d=some r)(O S:List Nat)(w:World)(H:Hd O w w S []):
  Calls Tryz.prog 210 ([.int .u16 d]:List Value).toArray w fun e h=>e= .returned (i6 r)∧Hd O w h S []:=by
 unfold Fdv at c
 refine zZ 11 Tryz.func210 rfl rfl rfl ?_
 refine zC fun A i=>zB<| zK (i6 0)<| zG (zA (i _ _ ?_))
 refine zC fun B k=>?_
 have l:=H
 have H:=H.rebase
 have C:=H
 refine xX H [0,1,2,3,4,5,6,7,8] (kz [0,0,0,0,0,0,0,0,0]) mixed ?_
 refine XM (.int .u16 d) ?_
 obtain ⟨m,n,c⟩:=zF c
 refine XP (fun _ _=>Do_shr' (j:=d) (q:=8) rfl rfl n) ?_
 obtain ⟨o,p,c⟩:=zF c
 refine XP (fun _ _=>Do_sidx (s1:=[0,1,1,2,1,2,2,3,1,2,2,3,2,3,3,4,1,2,2,3,2,3,3,4,2,3,3,4,3,4,4,5,1,2,2,3,2,3,3,4,2,3,3,4,3,4,4,5,2,3,3,4,3,4,4,5,3,4,4,5,4,5,5,6,1,2,2,3,2,3,3,4,2,3,3,4,3,4,4,5,2,3,3,4,3,4,4,5,3,4,4,5,4,5,5,6,2,3,3,4,3,4,4,5,3,4,4,5,4,5,5,6,3,4,4,5,4,5,5,6,4,5,5,6,5,6,6,7,1,2,2,3,2,3,3,4,2,3,3,4,3,4,4,5,2,3,3,4,3,4,4,5,3,4,4,5,4,5,5,6,2,3,3,4,3,4,4,5,3,4,4,5,4,5,5,6,3,4,4,5,4,5,5,6,4,5,5,6,5,6,6,7,2,3,3,4,3,4,4,5,3,4,4,5,4,5,5,6,3,4,4,5,4,5,5,6,4,5,5,6,5,6,6,7,3,4,4,5,4,5,5,6,4,5,5,6,5,6,6,7,4,5,5,6,5,6,6,7,5,6,6,7,6,7,7,8]) (q:=m) u9 rfl rfl p) ?_
 refine XM (.int .u16 d) ?_
 obtain ⟨s,t,c⟩:=zD c
 refine XP (fun _ _=>Do_and (a:=d) (b:=255) rfl rfl t) ?_
 obtain ⟨u,x,c⟩:=zF c
 refine XP (fun _ _=>Do_sidx (s1:=[0,1,1,2,1,2,2,3,1,2,2,3,2,3,3,4,1,2,2,3,2,3,3,4,2,3,3,4,3,4,4,5,1,2,2,3,2,3,3,4,2,3,3,4,3,4,4,5,2,3,3,4,3,4,4,5,3,4,4,5,4,5,5,6,1,2,2,3,2,3,3,4,2,3,3,4,3,4,4,5,2,3,3,4,3,4,4,5,3,4,4,5,4,5,5,6,2,3,3,4,3,4,4,5,3,4,4,5,4,5,5,6,3,4,4,5,4,5,5,6,4,5,5,6,5,6,6,7,1,2,2,3,2,3,3,4,2,3,3,4,3,4,4,5,2,3,3,4,3,4,4,5,3,4,4,5,4,5,5,6,2,3,3,4,3,4,4,5,3,4,4,5,4,5,5,6,3,4,4,5,4,5,5,6,4,5,5,6,5,6,6,7,2,3,3,4,3,4,4,5,3,4,4,5,4,5,5,6,3,4,4,5,4,5,5,6,4,5,5,6,5,6,6,7,3,4,4,5,4,5,5,6,4,5,5,6,5,6,6,7,4,5,5,6,5,6,6,7,5,6,6,7,6,7,7,8]) (q:=s) u9 rfl rfl x) ?_
 obtain ⟨D,y,c⟩:=zD c
 refine XP (fun _ _=>xJ (a:=o) (b:=u) rfl rfl y) ?_
 obtain ⟨f,z,c⟩:=zD c
 refine XP (fun _ _=>Do_conv u5 u3 rfl z)<| XP (fun _ _=>xM (v:=i6 f) rfl)<| MxM.xE fun E hS=>?_
 have H:=H.sees hS
 have H:=l.rejoin H
 refine (zA (k _ _ ?_))
 obtain rfl:=gI c
 refine (zY (gX (v1:=i6 f) rfl rfl ?_))
 exact ⟨rfl,H.pick [] (by decide)⟩
theorem Fduw (d:Int)(r:Bool)(c:Fdu d=some r)(O S:List Nat)(w:World)(H:Hd O w w S []):
  Calls Tryz.prog 170 ([.int .u16 d]:List Value).toArray w fun e k=>e= .returned (.bool r)∧Hd O w k S []:=by
 unfold Fdu at c
 refine zZ 11 Tryz.func170 rfl rfl rfl ?_
 refine zC fun A l=>zB<| zK (.bool false)<| zG (zA (l _ _ ?_))
 obtain ⟨h,c,m⟩:=zF c
 refine yH [2,3,4,5,6,7,8,9,10] (fun (g:Unit)=>[(2,.bool h)]) (fun g wl=>Hd O w wl S []) ?_ ?_
 ·skip
  refine zB ?_
  refine zJ (.int .u16 d) ?_
  obtain ⟨n,o,c⟩:=zD c
  refine zH (zM (Do_leq (a:=d) (b:=4095) rfl rfl) o)<| yM (b:=n) rfl rfl rfl (fun f=>?_) (fun f=>?_)
  ·have c:=zN f c
   refine zJ (.int .u16 d) ?_
   have p:=H
   obtain ⟨s,t,c⟩:=zF c
   refine yG rfl rfl (yB en210 rfl) (Fdvw d _ t _ _ _ (H.enter [] [] (by decide) rfl)) ?_
   rintro _ B ⟨rfl,u⟩
   have H:=p.step (u.only:Only [] _ _)
   refine ⟨_,rfl,?_⟩
   obtain ⟨x,y,c⟩:=zF c
   refine zH (Do_rem' (j:=s) (q:=2) rfl rfl y) ?_
   obtain ⟨i,z,c⟩:=zD c
   refine zH (zM (yZ (a:=x) (b:=1) rfl rfl) z)<| zH (yI (v:= .bool i) rfl rfl)<| zK (.bool i) ?_
   obtain rfl:=gI c
   exact (zG (zA (meet ⟨(),(zI rfl zL),H.pick [] (by decide)⟩)))
  have c:=zO f c
  refine yE ?_
  refine yE ?_
  refine yE ?_
  refine yE ?_
  refine zH (yF (v:= .bool false) rfl rfl)<| zK (.bool false) ?_
  obtain rfl:=gI c
  exact (zG (zA (meet ⟨(),(zI rfl zL),H.pick [] (by decide)⟩)))
 rintro _ ρ C H
 have c:=m
 obtain rfl:=gI c
 refine (zY (gX (v1:= .bool h) rfl rfl ?_))
 exact ⟨rfl,H.pick [] (by decide)⟩
theorem Faxw (h:Int)(r:Int)(c:Fax h=some r)(O S:List Nat)(w:World)(H:Hd O w w S []):
  Calls Tryz.prog 116 ([i6 h]:List Value).toArray w fun e j=>e= .returned (.int .u16 r)∧Hd O w j S []:=by
 unfold Fax at c
 refine zZ 12 Tryz.func116 rfl rfl rfl ?_
 refine zC fun B k=>zB<| zK (.int .u16 0)<| zG (zA (k _ _ ?_))
 refine zC fun C l=>zB<| zJ (i6 h) ?_
 obtain ⟨d,m,c⟩:=zD c
 refine zH (Do_conv u3 u96 rfl m)<| zK (.int .u16 d)<| zG (zA (l _ _ ?_))
 obtain ⟨f,c,n⟩:=zF c
 refine yH [3,6,7,8,9,10] (fun (g:Unit)=>[(3,.int .u16 f)]) (fun g wl=>Hd O w wl S []) ?_ ?_
 ·skip
  refine zC fun D o=>zB<| zJ (.int .u16 d) ?_
  have q:=H
  obtain ⟨s,t,c⟩:=zF c
  refine yG rfl rfl (yB en170 rfl) (Fduw d _ t _ _ _ (H.enter [] [] (by decide) rfl)) ?_
  rintro _ E ⟨rfl,u⟩
  have H:=q.step (u.only:Only [] _ _)
  refine ⟨_,rfl,?_⟩
  obtain ⟨v,x,c⟩:=zD c
  refine zH (zM (wJ (p:=s) rfl) x)<| zG (zA (o _ _ ?_))
  refine zW (b:=v) rfl (fun i=>?_) (fun i=>?_)
  ·have c:=zN i c
   refine zB ?_
   refine zJ (.int .u16 d) ?_
   obtain ⟨y,z,c⟩:=zD c
   refine zH (Do_or (a:=d) (b:=2048) rfl rfl z)<| zK (.int .u16 y) ?_
   obtain rfl:=gI c
   exact (zG (zA (meet ⟨(),(zI rfl zL),H.pick [] (by decide)⟩)))
  have c:=zO i c
  obtain rfl:=gI c
  exact (zX (zA (meet ⟨(),(zI rfl zL),H.pick [] (by decide)⟩)))
 rintro _ ρ F H
 have c:=n
 refine zC fun G A=>zB<| zJ (.int .u16 f)<| zK (.int .u16 f)<| zG (zA (A _ _ ?_))
 obtain rfl:=gI c
 refine (zY (gX (v1:= .int .u16 f) rfl rfl ?_))
 exact ⟨rfl,H.pick [] (by decide)⟩
theorem Fb7w (d:Int)(r:Int)(c:Fb7 d=some r)(O S:List Nat)(w:World)(H:Hd O w w S []):
  Calls Tryz.prog 211 ([.int .u16 d]:List Value).toArray w fun e h=>e= .returned (i6 r)∧Hd O w h S []:=by
 unfold Fb7 at c
 refine zZ 6 Tryz.func211 rfl rfl rfl ?_
 refine zC fun m i=>zB<| zK (i6 0)<| zG (zA (i _ _ ?_))
 refine zC fun n j=>zB<| zJ (.int .u16 d) ?_
 obtain ⟨o,k,c⟩:=zD c
 refine zH (Do_and (a:=d) (b:=2047) rfl rfl k) ?_
 obtain ⟨f,l,c⟩:=zD c
 refine zH (Do_conv u96 u3 rfl l)<| zK (i6 f)<| zG (zA (j _ _ ?_))
 obtain rfl:=gI c
 refine (zY (gX (v1:=i6 f) rfl rfl ?_))
 exact ⟨rfl,H.pick [] (by decide)⟩
theorem Fdww (m:Option (Arr 64 Int))(v1:Option Addr)(r:Int)(c:Fdw m=some r)(O S:List Nat)(w:World)(H:Hd O w w S [.fz (.pt (Rp.fl (Fl.arr 64 (Fl.int .u16))) v1 m)]):
  Calls Tryz.prog 171 ([.pointer v1]:List Value).toArray w fun e d=>e= .returned (i6 r)∧Hd O w d S []:=by
 unfold Fdw at c
 refine zZ 15 Tryz.func171 rfl rfl rfl ?_
 refine zC fun K3 C=>zB<| zK (i6 0)<| zG (zA (C _ _ ?_))
 refine zC fun K4 D=>?_
 have E:=H
 have H:=H.rebase
 have H6:=H
 refine xX H [0,1,2,3,4,5,6,7,8,9,10,11,12] (kz [0,0,0,1,4,0,0,0,1,4,0,0,0]) mixed ?_
 refine XM (.pointer v1) ?_
 obtain ⟨k,F,c⟩:=zF c
 obtain ⟨n,o,G,I,J,K,L,M⟩:=ptf_some ((H.item (i:=0) rfl):PtF _ _ _ _ _) F
 obtain rfl:G=(Fl.arr 64 (Fl.int .u16)).f k:=L
 have H:=H.fz (.at n o _) ⟨J,K,M⟩
 refine XP (fun _ _=>yA (ad:=⟨n,o,none⟩) (congrArg Value.pointer I)) ?_
 obtain ⟨p,s,c⟩:=zF c
 refine XP (fun _ _=>dC (X:=k) u98 sz96 rfl rfl s)<| MxM.xP oS rfl rfl rfl (fun d h=>dX (v:= .int .u16 p) one96 rfl (Cells.ix (e:=(Fl.int .u16)) (x:=k) ((H.sees h).item (i:=1) rfl).2.2 s)) ?_
 have N:=H
 obtain ⟨t,P,c⟩:=zF c
 refine MxM.XL_fcall oS rfl rfl rfl (v:=i6 t) (fun d h=>yB en211 rfl) (fun d h=>dG (Fb7w p _ P _ _ _ (Hd.fresh0 d))) ?_
 have H:=N
 refine XM (.pointer v1) ?_
 obtain ⟨l,Q,c⟩:=zF c
 obtain ⟨u,o26,R,T,U,V,Y,Z⟩:=ptf_some ((H.item (i:=0) rfl):PtF _ _ _ _ _) Q
 obtain rfl:R=(Fl.arr 64 (Fl.int .u16)).f l:=Y
 have H:=H.fz (.at u o26 _) ⟨U,V,Z⟩
 refine XP (fun _ _=>yA (ad:=⟨u,o26,none⟩) (congrArg Value.pointer T)) ?_
 obtain ⟨y,z,c⟩:=zF c
 refine XP (fun _ _=>dC (X:=l) u98 sz96 rfl rfl z)<| MxM.xP oS rfl rfl rfl (fun d h=>dX (v:= .int .u16 y) one96 rfl (Cells.ix (e:=(Fl.int .u16)) (x:=l) ((H.sees h).item (i:=2) rfl).2.2 z)) ?_
 have aa:=H
 obtain ⟨A,ab,c⟩:=zF c
 refine MxM.XL_fcall oS rfl rfl rfl (v:=i6 A) (fun d h=>yB en211 rfl) (fun d h=>dG (Fb7w y _ ab _ _ _ (Hd.fresh0 d))) ?_
 have H:=aa
 obtain ⟨ac,ae,c⟩:=zF c
 refine XP (fun _ _=>Do_shl' (j:=A) (q:=11) rfl rfl ae) ?_
 obtain ⟨B,af,c⟩:=zD c
 refine XP (fun _ _=>Do_or (a:=t) (b:=ac) rfl rfl af)<| XP (fun _ _=>xM (v:=i6 B) rfl)<| MxM.xE fun aj hS=>?_
 have H:=H.sees hS
 have H:=E.rejoin H
 refine (zA (D _ _ ?_))
 obtain rfl:=gI c
 refine (zY (gX (v1:=i6 B) rfl rfl ?_))
 exact ⟨rfl,H.pick [] (by decide)⟩
theorem Fd0w (j:Option (Arr 64 Int))(v1:Option Addr)(r:Int)(c:Fd0 j=some r)(O S:List Nat)(w:World)(H:Hd O w w S [.fz (.pt (Rp.fl (Fl.arr 64 (Fl.int .u16))) v1 j)]):
  Calls Tryz.prog 172 ([.pointer v1]:List Value).toArray w fun e y=>e= .returned (i6 r)∧Hd O w y S []:=by
 unfold Fd0 at c
 refine zZ 19 Tryz.func172 rfl rfl rfl ?_
 refine zC fun K3 z=>zB<| zK (i6 0)<| zG (zA (z _ _ ?_))
 refine zC fun K4 A=>zB<| zK (i6 0)<| zG (zA (A _ _ ?_))
 obtain ⟨h,c,B⟩:=zF c
 refine yH [3,4,5,6,7,8,9,10,11,12,13,14,15,16,17] (fun (g:Unit)=>[(3,i6 h)]) (fun g wl=>Hd O w wl S []) ?_ ?_
 ·skip
  refine zC fun aj C=>zB<| zJ (i6 0)<| zG (zA (C _ _ ?_))
  refine yC ?_
  unfold Feu at c
  obtain ⟨D,m,E,c⟩:=yR c
  refine xA [3,4,5,6,7,8,9,10,11,12,13,14,15,16,17] (fun (g:Nat×Int×Int)=>[(3,i6 g.2.1),(5,i6 g.2.2)]) (fun g wl=>Hd O w wl S [.fz (.pt (Rp.fl (Fl.arr 64 (Fl.int .u16))) v1 j)]∧fV D g.1 (g.2.1,g.2.2)=some h) (fun g=>g.1) (m,0,0) (zI rfl (zI rfl zL)) ⟨H.pick [0] (by decide),c⟩ ?_
  clear H c
  rintro ⟨m,n,d⟩ ρ ak ⟨H,c⟩
  obtain ⟨F,rfl,c⟩:=yV c
  have c:=yU E c
  refine zC fun al G=>zB ?_
  obtain ⟨I,J,c⟩:=zD c
  refine zH (zM (xK (a:=d) (b:=60) rfl rfl) J)<| zG (zA (G _ _ ?_))
  refine zC fun am K=>?_
  refine zW (b:=I) rfl (fun k=>?_) (fun k=>?_)
  ·have c:=zN k c
   refine zX (zA (K _ _ ?_))
   refine zC fun an L=>?_
   refine yC ?_
   refine zC fun ao M=>zB<| zJ (i6 d)<| zK (i6 d)<| zG (zA (M _ _ ?_))
   refine zB ?_
   refine zJ (i6 n)<| zJ (.pointer v1)<| zJ (i6 d) ?_
   obtain ⟨ap,N,c⟩:=zD c
   refine zH (xJ (a:=d) (b:=1) rfl rfl N) ?_
   obtain ⟨l,P,c⟩:=zF c
   obtain ⟨o,p,Q,R,T,U,V,Y⟩:=ptf_some ((H.item (i:=0) rfl):PtF _ _ _ _ _) P
   obtain rfl:Q=(Fl.arr 64 (Fl.int .u16)).f l:=V
   have H:=H.fz (.at o p _) ⟨T,U,Y⟩
   refine zH (yA (ad:=⟨o,p,none⟩) (congrArg Value.pointer R)) ?_
   obtain ⟨q,s,c⟩:=zF c
   refine zH (dC (X:=l) u98 sz96 rfl rfl s)<| zH (dX (v:= .int .u16 q) one96 rfl (Cells.ix (e:=(Fl.int .u16)) (x:=l) (H.item (i:=1) rfl).2.2 s)) ?_
   have Z:=H
   obtain ⟨aa,ab,c⟩:=zF c
   refine yG rfl rfl (yB en211 rfl) (Fb7w q _ ab _ _ _ (H.enter [] [] (by decide) rfl)) ?_
   rintro _ aq ⟨rfl,ac⟩
   have H:=Z.step (ac.only:Only [] _ _)
   refine ⟨_,rfl,?_⟩
   obtain ⟨t,ae,c⟩:=zD c
   refine zH (Do_xor (a:=n) (b:=aa) rfl rfl ae)<| zK (i6 t)<| (zG (yK (zA (L _ _ ?_))))
   refine zB ?_
   obtain ⟨u,af,c⟩:=zD c
   refine zH (xJ (a:=d) (b:=1) rfl rfl af)<| zJ (i6 u) ?_
   exact (zG (zA (meet ⟨(F,t,u),(zI rfl (zI rfl zL)),⟨H.pick [0] (by decide),c⟩,Nat.lt_succ_self _⟩)))
  have c:=zO k c
  obtain rfl:=gI c
  exact (xH (yL (yL (yS (zA (meet ⟨(),(zI rfl zL),H.pick [] (by decide)⟩))))))
 rintro _ ρ ar H
 have c:=B
 refine zC fun au ag=>zB<| zJ (i6 h)<| zK (i6 h)<| zG (zA (ag _ _ ?_))
 obtain rfl:=gI c
 refine (zY (gX (v1:=i6 h) rfl rfl ?_))
 exact ⟨rfl,H.pick [] (by decide)⟩
set_option maxRecDepth 100000 in
theorem Fenw (d:Option (Arr 64 Int))(v1:Option Addr)(r:Int)(c:Fen d=some r)(O S:List Nat)(w:World)(H:Hd O w w S [.fz (.pt (Rp.fl (Fl.arr 64 (Fl.int .u16))) v1 d)]):
  Calls Tryz.prog 173 ([.pointer v1]:List Value).toArray w fun e K=>e= .returned (i6 r)∧Hd O w K S []:=by
 unfold Fen at c
 refine zZ 35 Tryz.func173 rfl rfl rfl ?_
 refine zC fun K3 L=>zB<| zK (i6 0)<| zG (zA (L _ _ ?_))
 refine zC fun K4 M=>zB<| zK (i6 0)<| zG (zA (M _ _ ?_))
 obtain ⟨k,c,N⟩:=zF c
 refine yH [3,4,5,6,7,8,9,10,11,12,13,14,15,16,17,18,19,20,21,22,23,24,25,26,27,28,29,30,31,32,33] (fun (g:Unit)=>[(3,i6 k)]) (fun g wl=>Hd O w wl S []) ?_ ?_
 ·skip
  refine zC fun bk P=>zB<| zJ (i6 0)<| zG (zA (P _ _ ?_))
  refine yC ?_
  unfold Few at c
  obtain ⟨Q,A,R,c⟩:=yR c
  refine xA [3,4,5,6,7,8,9,10,11,12,13,14,15,16,17,18,19,20,21,22,23,24,25,26,27,28,29,30,31,32,33] (fun (g:Nat×Int×Int)=>[(3,i6 g.2.1),(7,i6 g.2.2)]) (fun g wl=>Hd O w wl S [.fz (.pt (Rp.fl (Fl.arr 64 (Fl.int .u16))) v1 d)]∧fV Q g.1 (g.2.1,g.2.2)=some k) (fun g=>g.1) (A,0,0) (zI rfl (zI rfl zL)) ⟨H.pick [0] (by decide),c⟩ ?_
  clear H c
  rintro ⟨A,T,l⟩ ρ bl ⟨H,c⟩
  obtain ⟨U,rfl,c⟩:=yV c
  have c:=yU R c
  refine zC fun bm V=>zB ?_
  obtain ⟨Y,Z,c⟩:=zD c
  refine zH (zM (xK (a:=l) (b:=62) rfl rfl) Z)<| zG (zA (V _ _ ?_))
  refine zC fun bn aa=>?_
  refine zW (b:=Y) rfl (fun n=>?_) (fun n=>?_)
  ·have c:=zN n c
   refine zX (zA (aa _ _ ?_))
   obtain ⟨o,c,ab⟩:=zF c
   refine yH [3,4,5,6,9,10,11,12,13,14,15,16,17,18,19,20,21,22,23,24,25,26,27,28,29,30,31,32] (fun (g:Unit)=>[(3,i6 o)]) (fun g wl=>Hd O w wl S [.fz (.pt (Rp.fl (Fl.arr 64 (Fl.int .u16))) v1 d)]) ?_ ?_
   ·skip
    refine yC ?_
    refine zC fun bo ac=>zB<| zJ (i6 l)<| zK (i6 l)<| zG (zA (ac _ _ ?_))
    refine zC fun bp ae=>zB<| zK (i6 11)<| zG (zA (ae _ _ ?_))
    refine yC ?_
    unfold Fet at c
    obtain ⟨af,B,ag,c⟩:=yR c
    refine xA [3,5,6,10,11,12,13,14,15,16,17,18,19,20,21,22,23,24,25,26,27,28,29,30,31,32] (fun (g:Nat×Int×Int)=>[(3,i6 g.2.1),(5,i6 g.2.2)]) (fun g wl=>Hd O w wl S [.fz (.pt (Rp.fl (Fl.arr 64 (Fl.int .u16))) v1 d)]∧fV af g.1 (g.2.1,g.2.2)=some o) (fun g=>g.1) (B,T,11) (zI rfl (zI rfl zL)) ⟨H.pick [0] (by decide),c⟩ ?_
    clear H c
    rintro ⟨B,m,h⟩ ρ bq ⟨H,c⟩
    obtain ⟨ah,rfl,c⟩:=yV c
    have c:=yU ag c
    refine zC fun br ai=>?_
    refine zC fun bt aj=>zB<| zJ (i6 h) ?_
    obtain ⟨ak,al,c⟩:=zD c
    refine zH (zM (aJ (a:=h) (b:=0) rfl rfl) al)<| zG (zA (aj _ _ ?_))
    refine zW (b:=ak) rfl (fun s=>?_) (fun s=>?_)
    ·have c:=zN s c
     refine zX (zA (ai _ _ ?_))
     obtain ⟨C,c,am⟩:=zF c
     refine yH [3,6,14,15,16,17,18,19,20,21,22,23,24,25,26,27,28,29,30,31,32] (fun (g:Unit)=>[(3,i6 C)]) (fun g wl=>Hd O w wl S [.fz (.pt (Rp.fl (Fl.arr 64 (Fl.int .u16))) v1 d)]) ?_ ?_
     ·skip
      refine yC ?_
      refine zC fun bu an=>zB<| zJ (i6 m) ?_
      obtain ⟨ao,ap,c⟩:=zD c
      refine zH (Do_and (a:=m) (b:=2097152) rfl rfl ap) ?_
      obtain ⟨t,aq,c⟩:=zD c
      refine zH (zM (wL (a:=ao) (b:=0) rfl rfl) aq)<| zK (.bool t)<| zG (zA (an _ _ ?_))
      refine zC fun bv ar=>zB<| zJ (i6 m) ?_
      obtain ⟨au,av,c⟩:=zF c
      refine zH (Do_shl' (j:=m) (q:=1) rfl rfl av) ?_
      obtain ⟨u,aw,c⟩:=zD c
      refine zH (Do_and (a:=au) (b:=4194303) rfl rfl aw)<| zK (i6 u)<| zG (zA (ar _ _ ?_))
      refine zC fun bw ax=>zB<| zJ (.bool t)<| zJ (.pointer v1)<| zJ (i6 l) ?_
      obtain ⟨y,ay,c⟩:=zF c
      obtain ⟨D,E,az,a0,a1,a2,a3,a4⟩:=ptf_some ((H.item (i:=0) rfl):PtF _ _ _ _ _) ay
      obtain rfl:az=(Fl.arr 64 (Fl.int .u16)).f y:=a3
      have H:=H.fz (.at D E _) ⟨a1,a2,a4⟩
      refine zH (yA (ad:=⟨D,E,none⟩) (congrArg Value.pointer a0)) ?_
      obtain ⟨F,G,c⟩:=zF c
      refine zH (dC (X:=y) u98 sz96 rfl rfl G)<| zH (dX (v:= .int .u16 F) one96 rfl (Cells.ix (e:=(Fl.int .u16)) (x:=y) (H.item (i:=1) rfl).2.2 G))<| zJ (i6 h) ?_
      obtain ⟨a5,a6,c⟩:=zF c
      refine zH (Do_shr' (j:=F) (q:=h) rfl rfl a6) ?_
      obtain ⟨a7,a8,c⟩:=zD c
      refine zH (Do_and (a:=a5) (b:=1) rfl rfl a8) ?_
      obtain ⟨a9,ba,c⟩:=zD c
      refine zH (zM (yZ (a:=a7) (b:=1) rfl rfl) ba) ?_
      obtain ⟨bb,bc,c⟩:=zD c
      refine zH (zM (Do_neqb (p:=t) (q:=a9) u4 rfl rfl) bc)<| zG (zA (ax _ _ ?_))
      refine zW (b:=bb) rfl (fun z=>?_) (fun z=>?_)
      ·have c:=zN z c
       refine zB ?_
       refine zJ (i6 u) ?_
       obtain ⟨bd,be,c⟩:=zD c
       refine zH (Do_xor (a:=u) (b:=2097167) rfl rfl be)<| zK (i6 bd) ?_
       obtain rfl:=gI c
       exact (zG (yK (zA (meet ⟨(),(zI rfl zL),H.pick [0] (by decide)⟩))))
      have c:=zO z c
      obtain rfl:=gI c
      exact (zX (yK (zA (meet ⟨(),(zI rfl zL),H.pick [0] (by decide)⟩))))
     rintro _ ρ bx H
     have c:=am
     refine zB ?_
     refine zJ (i6 h) ?_
     obtain ⟨I,bf,c⟩:=zD c
     refine zH (aZ (a:=h) (b:=1) rfl rfl bf)<| zK (i6 I) ?_
     exact (zG (zA (meet ⟨(ah,C,I),(zI rfl (zI rfl zL)),⟨H.pick [0] (by decide),c⟩,Nat.lt_succ_self _⟩)))
    have c:=zO s c
    obtain rfl:=gI c
    exact (xH (yL (yL (yS (yK (zA (meet ⟨(),(zI rfl zL),H.pick [0] (by decide)⟩)))))))
   rintro _ ρ bz H
   have c:=ab
   refine zB ?_
   obtain ⟨J,bg,c⟩:=zD c
   refine zH (xJ (a:=l) (b:=1) rfl rfl bg)<| zJ (i6 J) ?_
   exact (zG (zA (meet ⟨(U,o,J),(zI rfl (zI rfl zL)),⟨H.pick [0] (by decide),c⟩,Nat.lt_succ_self _⟩)))
  have c:=zO n c
  obtain rfl:=gI c
  exact (xH (yL (yL (yS (zA (meet ⟨(),(zI rfl zL),H.pick [] (by decide)⟩))))))
 rintro _ ρ b0 H
 have c:=N
 refine zC fun b1 bh=>zB<| zJ (i6 k)<| zK (i6 k)<| zG (zA (bh _ _ ?_))
 obtain rfl:=gI c
 refine (zY (gX (v1:=i6 k) rfl rfl ?_))
 exact ⟨rfl,H.pick [] (by decide)⟩
theorem Fd9w (l:Arr 64 Int)(k:Nat)(r:(Arr 64 Int))(c:Fd9 l=some r)(O S:List Nat)(w:World)(H:Hd O w w S [.blk k ((Fl.arr 64 (Fl.int .u16)).f l) 98,.fz (.at 1 0 ((Fl.arr 4 (Fl.int .u16)).f yJ))]):
  Calls Tryz.prog 117 ([gW k]:List Value).toArray w fun e h=>e= .returned (.tuple #[])∧Hd O w h S [.blk k ((Fl.arr 64 (Fl.int .u16)).f r) 98]:=by
 unfold Fd9 at c
 refine zZ 31 Tryz.func117 rfl rfl rfl ?_
 refine zC fun K4 G=>?_
 have I:=H
 have H:=H.rebase
 have H6:=H
 refine xX H [0,1,2,3,4,5,6,7,8] (kz [0,0,1,0,0,1,0,0,3]) mixed ?_
 refine XM (gW k)<| XM (gW k) ?_
 have J:=H
 have H:=H.freezeB (i:=0) rfl
 have H:=H.fz (.pt (Rp.fl (Fl.arr 64 (Fl.int .u16))) (some ⟨k,0,none⟩) (some l)) ⟨_,_,_,rfl,(H.item (i:=0) rfl).1,(H.item (i:=0) rfl).2.1,rfl,(H.item (i:=0) rfl).2.2⟩
 obtain ⟨C,K,c⟩:=zF c
 refine MxM.XL_call oS rfl rfl rfl (v:=i6 C) (fun h d=>yB en171 rfl) (fun h d=>dG (Fdww (some l) (some ⟨k,0,none⟩) _ K _ _ _ ((H.sees d).enter [] [2] (by decide) rfl))) ?_
 have H:=J
 obtain ⟨ap,L,c⟩:=zF c
 refine XP (fun _ _=>Do_rem' (j:=C) (q:=4) rfl rfl L) ?_
 obtain ⟨p,D,c⟩:=zF c
 refine XP (fun _ _=>dC (X:=yJ) u264 sz96 rfl rfl D)<| MxM.xP oS rfl rfl rfl (fun h d=>dX (v:= .int .u16 p) one96 rfl (Cells.ix (e:=(Fl.int .u16)) (x:=yJ) ((H.sees d).item (i:=1) rfl).2.2 D))<| XP (fun _ _=>yA rfl) ?_
 obtain ⟨aq,s,c⟩:=zF c
 refine XP (fun _ _=>dC (X:=l) u98 sz96 rfl rfl s) ?_
 obtain ⟨n,M,c⟩:=zD c
 refine MxM.XL_exU oS rfl rfl (fun h d=>kH (e:=(Fl.int .u16)) (X:=l) (a:=p) (j:=0) (H.sees d) 0 rfl sz96 rfl (v:= .int .u16 p) rfl rfl (Arr.at_lt s).1 (Arr.at_lt s).2 M) ?_
 rintro h ar d H
 refine ⟨H.only,?_⟩
 refine MxM.xE fun au hS=>?_
 have H:=H.sees hS
 have H:=I.rejoin H
 refine (zA (G _ _ ?_))
 refine zC fun av N=>?_
 have P:=H
 have H:=H.rebase
 have aw:=H
 refine xX H [0,1,2,3,4,5,6] (kz [0,0,1,4,0,0,3]) mixed ?_
 refine XM (gW k)<| XM (gW k) ?_
 have Q:=H
 have H:=H.freezeB (i:=0) rfl
 have H:=H.fz (.pt (Rp.fl (Fl.arr 64 (Fl.int .u16))) (some ⟨k,0,none⟩) (some n)) ⟨_,_,_,rfl,(H.item (i:=0) rfl).1,(H.item (i:=0) rfl).2.1,rfl,(H.item (i:=0) rfl).2.2⟩
 obtain ⟨E,R,c⟩:=zF c
 refine MxM.XL_call oS rfl rfl rfl (v:=i6 E) (fun h d=>yB en172 rfl) (fun h d=>dG (Fd0w (some n) (some ⟨k,0,none⟩) _ R _ _ _ ((H.sees d).enter [] [2] (by decide) rfl))) ?_
 have H:=Q
 have T:=H
 obtain ⟨t,U,c⟩:=zF c
 refine MxM.XL_fcall oS rfl rfl rfl (v:= .int .u16 t) (fun h d=>yB en116 rfl) (fun h d=>dG (Faxw E _ U _ _ _ (Hd.fresh0 h))) ?_
 have H:=T
 refine XP (fun _ _=>yA rfl) ?_
 obtain ⟨ax,u,c⟩:=zF c
 refine XP (fun _ _=>dC (X:=n) u98 sz96 rfl rfl u) ?_
 obtain ⟨o,V,c⟩:=zD c
 refine MxM.XL_exU oS rfl rfl (fun h d=>kH (e:=(Fl.int .u16)) (X:=n) (a:=t) (j:=61) (H.sees d) 0 rfl sz96 rfl (v:= .int .u16 t) rfl rfl (Arr.at_lt u).1 (Arr.at_lt u).2 V) ?_
 rintro h ay d H
 refine ⟨H.only,?_⟩
 refine MxM.xE fun az hS=>?_
 have H:=H.sees hS
 have H:=P.rejoin H
 refine (zA (N _ _ ?_))
 refine zC fun a0 Y=>zB<| zJ (gW k) ?_
 have Z:=H
 have H:=H.freezeB (i:=0) rfl
 have H:=H.fz (.pt (Rp.fl (Fl.arr 64 (Fl.int .u16))) (some ⟨k,0,none⟩) (some o)) ⟨_,_,_,rfl,(H.item (i:=0) rfl).1,(H.item (i:=0) rfl).2.1,rfl,(H.item (i:=0) rfl).2.2⟩
 obtain ⟨m,aa,c⟩:=zF c
 refine yG rfl rfl (yB en173 rfl) (Fenw (some o) (some ⟨k,0,none⟩) _ aa _ _ _ (H.enter [] [2] (by decide) rfl)) ?_
 rintro _ a1 ⟨rfl,ab⟩
 have H:=Z.step (ab.only:Only [] _ _)
 refine ⟨_,rfl,?_⟩
 refine zK (i6 m)<| zG (zA (Y _ _ ?_))
 have ac:=H
 have H:=H.rebase
 have a2:=H
 refine WP_mix H [0,1,2,3,4,5,6,7,8,9,11,10,12,13] (kz [0,0,0,0,4,0,0,4,0,0,3,0,0,3]) mixed ?_
 refine XM (gW k)<| XM (gW k)<| XM (i6 m) ?_
 obtain ⟨ad,ae,c⟩:=zF c
 refine XP (fun _ _=>Do_shr' (j:=m) (q:=11) rfl rfl ae) ?_
 have af:=H
 obtain ⟨y,ag,c⟩:=zF c
 refine MxM.XL_fcall oS rfl rfl rfl (v:= .int .u16 y) (fun h d=>yB en116 rfl) (fun h d=>dG (Faxw ad _ ag _ _ _ (Hd.fresh0 h))) ?_
 have H:=af
 refine XM (i6 m) ?_
 obtain ⟨ah,ai,c⟩:=zD c
 refine XP (fun _ _=>Do_and (a:=m) (b:=2047) rfl rfl ai) ?_
 have aj:=H
 obtain ⟨z,ak,c⟩:=zF c
 refine MxM.XL_fcall oS rfl rfl rfl (v:= .int .u16 z) (fun h d=>yB en116 rfl) (fun h d=>dG (Faxw ah _ ak _ _ _ (Hd.fresh0 h))) ?_
 have H:=aj
 refine XP (fun _ _=>yA rfl) ?_
 obtain ⟨a3,A,c⟩:=zF c
 refine XP (fun _ _=>dC (X:=o) u98 sz96 rfl rfl A)<| XP (fun _ _=>yA rfl) ?_
 obtain ⟨F,al,c⟩:=zD c
 refine MxM.XL_exU oS rfl rfl (fun h d=>kH (e:=(Fl.int .u16)) (X:=o) (a:=y) (j:=62) (H.sees d) 0 rfl sz96 rfl (v:= .int .u16 y) rfl rfl (Arr.at_lt A).1 (Arr.at_lt A).2 al) ?_
 rintro h a4 d H
 refine ⟨H.only,?_⟩
 obtain ⟨a5,B,c⟩:=zF c
 refine XP (fun _ _=>dC (X:=F) u98 sz96 rfl rfl B) ?_
 obtain ⟨a6,am,c⟩:=zD c
 refine MxM.XL_exU oS rfl rfl (fun h d=>kH (e:=(Fl.int .u16)) (X:=F) (a:=z) (j:=63) (H.sees d) 0 rfl sz96 rfl (v:= .int .u16 z) rfl rfl (Arr.at_lt B).1 (Arr.at_lt B).2 am) ?_
 rintro h a7 d H
 refine ⟨H.only,?_⟩
 refine MxM.xE fun a8 hS=>?_
 have H:=H.sees hS
 have H:=ac.rejoin H
 obtain rfl:=gI c
 refine (post0n rfl ?_)
 exact ⟨rfl,H.pick [0] (by decide)⟩
end Go.Proofs.YtckmiljbaejijaaGreatDoor.L
