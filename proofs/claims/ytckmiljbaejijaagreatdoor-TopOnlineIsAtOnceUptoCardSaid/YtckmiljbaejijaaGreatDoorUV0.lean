/- Walks: what each function computes, for every argument; no condition but those that stand in the statements. -/
import Derived.Test.YtckmiljbaejijaaGreatDoorRows
import Derived.Test.YtckmiljbaejijaaGreatDoorUP
import Derived.Test.YtckmiljbaejijaaGreatDoorXVc
import Derived.Test.YtckmiljbaejijaaGreatDoorXVs
import Derived.Test.YtckmiljbaejijaaGreatDoorLfS
namespace Go.Proofs.YtckmiljbaejijaaGreatDoor.L
open Go.RowKit Go.OB Go.Lf
set_option maxHeartbeats 4000000
theorem u2:Tryz.prog.underlying 2=some (.int .i64):=Tryz.underlying2
theorem u3:Tryz.prog.underlying 3=some (.int .i64):=Tryz.underlying3
theorem u4:Tryz.prog.underlying 4=some .bool:=Tryz.underlying4
theorem u5:Tryz.prog.underlying 5=some (.int .u8):=Tryz.underlying5
theorem u9:Tryz.prog.underlying 9=some .string:=Tryz.underlying9
theorem u22:Tryz.prog.underlying 22=some (.slice 9):=Tryz.underlying22
theorem u23:Tryz.prog.underlying 23=some (.slice 122):=Tryz.underlying23
theorem u24:Tryz.prog.underlying 24=some (.slice 95):=Tryz.underlying24
theorem u27:Tryz.prog.underlying 27=some (.slice 37):=Tryz.underlying27
theorem u28:Tryz.prog.underlying 28=some (.slice 38):=Tryz.underlying28
theorem u33:Tryz.prog.underlying 33=some (.slice 40):=Tryz.underlying33
theorem u38:Tryz.prog.underlying 38=some (.slice 3):=Tryz.underlying38
theorem u41:Tryz.prog.underlying 41=some (.slice 22):=Tryz.underlying41
theorem u55:Tryz.prog.underlying 55=some (.slice 148):=Tryz.underlying55
theorem u61:Tryz.prog.underlying 61=some (.slice 5):=Tryz.underlying61
theorem u68:Tryz.prog.underlying 68=some (.slice 70):=Tryz.underlying68
theorem u96:Tryz.prog.underlying 96=some (.int .u16):=Tryz.underlying96
theorem u98:Tryz.prog.underlying 98=some (.array 64 96):=Tryz.underlying98
theorem u142:Tryz.prog.underlying 142=some (.slice 172):=Tryz.underlying142
theorem u143:Tryz.prog.underlying 143=some (.slice 170):=Tryz.underlying143
theorem u144:Tryz.prog.underlying 144=some (.slice 4):=Tryz.underlying144
theorem u163:Tryz.prog.underlying 163=some (.map 9 3):=Tryz.underlying163
theorem u199:Tryz.prog.underlying 199=some (.int .u64):=Tryz.underlying199
theorem u243:Tryz.prog.underlying 243=some (.array 3 3):=Tryz.underlying243
theorem u264:Tryz.prog.underlying 264=some (.array 4 96):=Tryz.underlying264
theorem u297:Tryz.prog.underlying 297=some (.int .u64):=Tryz.underlying297
theorem sz3:Sz Tryz.prog 3 1:=by unfold Sz; kernel_rfl
theorem sz4:Sz Tryz.prog 4 1:=by unfold Sz; kernel_rfl
theorem sz9:Sz Tryz.prog 9 1:=by unfold Sz; kernel_rfl
theorem sz22:Sz Tryz.prog 22 1:=by unfold Sz; kernel_rfl
theorem sz26:Sz Tryz.prog 26 3:=by unfold Sz; kernel_rfl
theorem sz28:Sz Tryz.prog 28 1:=by unfold Sz; kernel_rfl
theorem sz35:Sz Tryz.prog 35 2:=by unfold Sz; kernel_rfl
theorem sz37:Sz Tryz.prog 37 4:=by unfold Sz; kernel_rfl
theorem sz38:Sz Tryz.prog 38 1:=by unfold Sz; kernel_rfl
theorem sz40:Sz Tryz.prog 40 3:=by unfold Sz; kernel_rfl
theorem sz41:Sz Tryz.prog 41 1:=by unfold Sz; kernel_rfl
theorem sz48:Sz Tryz.prog 48 1:=by unfold Sz; kernel_rfl
theorem sz55:Sz Tryz.prog 55 1:=by unfold Sz; kernel_rfl
theorem sz61:Sz Tryz.prog 61 1:=by unfold Sz; kernel_rfl
theorem sz70:Sz Tryz.prog 70 7:=by unfold Sz; kernel_rfl
theorem sz95:Sz Tryz.prog 95 8:=by unfold Sz; kernel_rfl
theorem sz96:Sz Tryz.prog 96 1:=by unfold Sz; kernel_rfl
theorem sz98:Sz Tryz.prog 98 64:=by unfold Sz; kernel_rfl
theorem sz122:Sz Tryz.prog 122 9:=by unfold Sz; kernel_rfl
theorem sz142:Sz Tryz.prog 142 1:=by unfold Sz; kernel_rfl
theorem sz143:Sz Tryz.prog 143 1:=by unfold Sz; kernel_rfl
theorem sz144:Sz Tryz.prog 144 1:=by unfold Sz; kernel_rfl
theorem sz148:Sz Tryz.prog 148 2:=by unfold Sz; kernel_rfl
theorem sz170:Sz Tryz.prog 170 1:=by unfold Sz; kernel_rfl
theorem sz172:Sz Tryz.prog 172 3:=by unfold Sz; kernel_rfl
theorem sz226:Sz Tryz.prog 226 7:=by unfold Sz; kernel_rfl
theorem sz243:Sz Tryz.prog 243 3:=by unfold Sz; kernel_rfl
theorem one3:OneC Tryz.prog 3:=by unfold OneC; kernel_rfl
theorem one4:OneC Tryz.prog 4:=by unfold OneC; kernel_rfl
theorem one9:OneC Tryz.prog 9:=by unfold OneC; kernel_rfl
theorem one22:OneC Tryz.prog 22:=by unfold OneC; kernel_rfl
theorem one23:OneC Tryz.prog 23:=by unfold OneC; kernel_rfl
theorem one24:OneC Tryz.prog 24:=by unfold OneC; kernel_rfl
theorem one28:OneC Tryz.prog 28:=by unfold OneC; kernel_rfl
theorem one33:OneC Tryz.prog 33:=by unfold OneC; kernel_rfl
theorem one38:OneC Tryz.prog 38:=by unfold OneC; kernel_rfl
theorem one41:OneC Tryz.prog 41:=by unfold OneC; kernel_rfl
theorem one48:OneC Tryz.prog 48:=by unfold OneC; kernel_rfl
theorem one55:OneC Tryz.prog 55:=by unfold OneC; kernel_rfl
theorem one61:OneC Tryz.prog 61:=by unfold OneC; kernel_rfl
theorem one68:OneC Tryz.prog 68:=by unfold OneC; kernel_rfl
theorem one96:OneC Tryz.prog 96:=by unfold OneC; kernel_rfl
theorem one142:OneC Tryz.prog 142:=by unfold OneC; kernel_rfl
theorem one143:OneC Tryz.prog 143:=by unfold OneC; kernel_rfl
theorem one144:OneC Tryz.prog 144:=by unfold OneC; kernel_rfl
theorem one163:OneC Tryz.prog 163:=by unfold OneC; kernel_rfl
theorem one170:OneC Tryz.prog 170:=by unfold OneC; kernel_rfl
theorem agg26:Agg Tryz.prog 26:=by unfold Agg; kernel_rfl
theorem agg35:Agg Tryz.prog 35:=by unfold Agg; kernel_rfl
theorem agg37:Agg Tryz.prog 37:=by unfold Agg; kernel_rfl
theorem agg40:Agg Tryz.prog 40:=by unfold Agg; kernel_rfl
theorem agg70:Agg Tryz.prog 70:=by unfold Agg; kernel_rfl
theorem agg95:Agg Tryz.prog 95:=by unfold Agg; kernel_rfl
theorem agg98:Agg Tryz.prog 98:=by unfold Agg; kernel_rfl
theorem agg122:Agg Tryz.prog 122:=by unfold Agg; kernel_rfl
theorem agg148:Agg Tryz.prog 148:=by unfold Agg; kernel_rfl
theorem agg172:Agg Tryz.prog 172:=by unfold Agg; kernel_rfl
theorem agg226:Agg Tryz.prog 226:=by unfold Agg; kernel_rfl
theorem agg243:Agg Tryz.prog 243:=by unfold Agg; kernel_rfl
theorem zero3:Go.OB.Zero Tryz.prog 3 ([.int .i64 0]):=by unfold Go.OB.Zero; kernel_rfl
theorem zero9:Go.OB.Zero Tryz.prog 9 ([.string (bs [])]):=by unfold Go.OB.Zero; kernel_rfl
theorem zero22:Go.OB.Zero Tryz.prog 22 ([.slice none 0 0]):=by unfold Go.OB.Zero; kernel_rfl
theorem zero28:Go.OB.Zero Tryz.prog 28 ([.slice none 0 0]):=by unfold Go.OB.Zero; kernel_rfl
theorem zero37:Go.OB.Zero Tryz.prog 37 ([.string (bs []),.int .i64 0,.slice none 0 0,.int .i64 0]):=by unfold Go.OB.Zero; kernel_rfl
theorem zero40:Go.OB.Zero Tryz.prog 40 ([.int .i64 0,.int .i64 0,.int .i64 0]):=by unfold Go.OB.Zero; kernel_rfl
theorem zero41:Go.OB.Zero Tryz.prog 41 ([.slice none 0 0]):=by unfold Go.OB.Zero; kernel_rfl
theorem zero48:Go.OB.Zero Tryz.prog 48 ([.nilFunc]):=by unfold Go.OB.Zero; kernel_rfl
theorem zero70:Go.OB.Zero Tryz.prog 70 ([.int .i64 0,.string (bs []),.string (bs []),.int .i64 0,.int .i64 0,.int .i64 0,.slice none 0 0]):=by unfold Go.OB.Zero; kernel_rfl
theorem zero95:Go.OB.Zero Tryz.prog 95 ([.string (bs []),.int .i64 0,.string (bs []),.string (bs []),.int .i64 0,.int .i64 0,.int .i64 0,.slice none 0 0]):=by unfold Go.OB.Zero; kernel_rfl
theorem zero98:Go.OB.Zero Tryz.prog 98 ((Fl.arr 64 (Fl.int .u16)).f (Arr.rep 64 0:Arr 64 Int)):=by unfold Go.OB.Zero; kernel_rfl
theorem zero122:Go.OB.Zero Tryz.prog 122 ([.string (bs []),.string (bs []),.int .i64 0,.string (bs []),.string (bs []),.int .i64 0,.int .i64 0,.int .i64 0,.slice none 0 0]):=by unfold Go.OB.Zero; kernel_rfl
theorem zero148:Go.OB.Zero Tryz.prog 148 ([.int .i64 0,.bool false]):=by unfold Go.OB.Zero; kernel_rfl
theorem zero172:Go.OB.Zero Tryz.prog 172 ([.int .i64 0,.int .i64 0,.nilIface]):=by unfold Go.OB.Zero; kernel_rfl
theorem zero226:Go.OB.Zero Tryz.prog 226 ([.bool false,.bool false,.bool false,.bool false,.bool false,.int .i64 0,.int .i64 0]):=by unfold Go.OB.Zero; kernel_rfl
theorem zero243:Go.OB.Zero Tryz.prog 243 ((Fl.arr 3 (Fl.int .i64)).f (Arr.rep 3 0:Arr 3 Int)):=by unfold Go.OB.Zero; kernel_rfl
theorem el3:El Tryz.prog 3 1 8 ([.int .i64 0]):=⟨by kernel_rfl,by kernel_rfl,by kernel_rfl,by decide,by decide⟩
theorem el4:El Tryz.prog 4 1 1 ([.bool false]):=⟨by kernel_rfl,by kernel_rfl,by kernel_rfl,by decide,by decide⟩
theorem el5:El Tryz.prog 5 1 1 ([.int .u8 0]):=⟨by kernel_rfl,by kernel_rfl,by kernel_rfl,by decide,by decide⟩
theorem el9:El Tryz.prog 9 1 16 ([.string (bs [])]):=⟨by kernel_rfl,by kernel_rfl,by kernel_rfl,by decide,by decide⟩
theorem el22:El Tryz.prog 22 1 24 ([.slice none 0 0]):=⟨by kernel_rfl,by kernel_rfl,by kernel_rfl,by decide,by decide⟩
theorem el38:El Tryz.prog 38 1 24 ([.slice none 0 0]):=⟨by kernel_rfl,by kernel_rfl,by kernel_rfl,by decide,by decide⟩
theorem el148:El Tryz.prog 148 2 16 ([.int .i64 0,.bool false]):=⟨by kernel_rfl,by kernel_rfl,by kernel_rfl,by decide,by decide⟩
theorem el170:El Tryz.prog 170 1 16 ([.nilIface]):=⟨by kernel_rfl,by kernel_rfl,by kernel_rfl,by decide,by decide⟩
theorem el172:El Tryz.prog 172 3 32 ([.int .i64 0,.int .i64 0,.nilIface]):=⟨by kernel_rfl,by kernel_rfl,by kernel_rfl,by decide,by decide⟩
theorem z8_5:Z8 Tryz.prog 5:=by unfold Z8; kernel_rfl
theorem bz40:Tryz.prog.built 40 []=some ([.int .i64 0,.int .i64 0,.int .i64 0]).toArray:=by kernel_rfl
theorem bz63:Tryz.prog.built 63 []=some ([.slice none 0 0]).toArray:=by kernel_rfl
theorem bz98:Tryz.prog.built 98 []=some ((Fl.arr 64 (Fl.int .u16)).f (Arr.rep 64 0:Arr 64 Int)).toArray:=by kernel_rfl
theorem bz226:Tryz.prog.built 226 []=some ([.bool false,.bool false,.bool false,.bool false,.bool false,.int .i64 0,.int .i64 0]).toArray:=by kernel_rfl
theorem bt146_0_1_4 (a:Option Addr)(b c:Nat)(d:Int)(e:Option Addr)(f h:Nat):Tryz.prog.built 146 [(0,.slice a b c),(1,.int .i64 d),(4,.slice e f h)]=some [.slice a b c,.int .i64 d,.slice none 0 0,.slice none 0 0,.slice e f h].toArray:=by kernel_rfl
theorem bt148_0_1 (a:Int)(b:Bool):Tryz.prog.built 148 [(0,.int .i64 a),(1,.bool b)]=some [.int .i64 a,.bool b].toArray:=by kernel_rfl
theorem bt172_0_1_2 (a:Int)(b:Int)(a2T:TypeId)(c:Value):Tryz.prog.built 172 [(0,.int .i64 a),(1,.int .i64 b),(2,.iface a2T c)]=some [.int .i64 a,.int .i64 b,.iface a2T c].toArray:=by kernel_rfl
theorem bt215_0_2_3 (a:Option Nat)(b:Option Addr)(c d:Nat)(e:Option Nat):Tryz.prog.built 215 [(0,.map a),(2,.slice b c d),(3,.map e)]=some [.map a,.slice none 0 0,.slice b c d,.map e].toArray:=by kernel_rfl
theorem bt222_0 (a:Option Addr)(b c:Nat):Tryz.prog.built 222 [(0,.slice a b c)]=some [.slice a b c,.slice none 0 0,.slice none 0 0].toArray:=by kernel_rfl
theorem bt226_0 (a:Bool):Tryz.prog.built 226 [(0,.bool a)]=some [.bool a,.bool false,.bool false,.bool false,.bool false,.int .i64 0,.int .i64 0].toArray:=by kernel_rfl
theorem bt226_0_1_2 (a:Bool)(b:Bool)(c:Bool):Tryz.prog.built 226 [(0,.bool a),(1,.bool b),(2,.bool c)]=some [.bool a,.bool b,.bool c,.bool false,.bool false,.int .i64 0,.int .i64 0].toArray:=by kernel_rfl
theorem bt226_0_2_3 (a:Bool)(b:Bool)(c:Bool):Tryz.prog.built 226 [(0,.bool a),(2,.bool b),(3,.bool c)]=some [.bool a,.bool false,.bool b,.bool c,.bool false,.int .i64 0,.int .i64 0].toArray:=by kernel_rfl
theorem bt226_0_3_4 (a:Bool)(b:Bool)(c:Bool):Tryz.prog.built 226 [(0,.bool a),(3,.bool b),(4,.bool c)]=some [.bool a,.bool false,.bool false,.bool b,.bool c,.int .i64 0,.int .i64 0].toArray:=by kernel_rfl
theorem bt226_3_4_5_6 (a:Bool)(b:Bool)(c:Int)(d:Int):Tryz.prog.built 226 [(3,.bool a),(4,.bool b),(5,.int .i64 c),(6,.int .i64 d)]=some [.bool false,.bool false,.bool false,.bool a,.bool b,.int .i64 c,.int .i64 d].toArray:=by kernel_rfl
theorem bt226_4_5_6 (a:Bool)(b:Int)(c:Int):Tryz.prog.built 226 [(4,.bool a),(5,.int .i64 b),(6,.int .i64 c)]=some [.bool false,.bool false,.bool false,.bool false,.bool a,.int .i64 b,.int .i64 c].toArray:=by kernel_rfl
theorem bt226_5_6 (a:Int)(b:Int):Tryz.prog.built 226 [(5,.int .i64 a),(6,.int .i64 b)]=some [.bool false,.bool false,.bool false,.bool false,.bool false,.int .i64 a,.int .i64 b].toArray:=by kernel_rfl
theorem bt241_0_1_2 (a:Int)(b:Int)(c:Int):Tryz.prog.built 241 [(0,.int .i64 a),(1,.int .i64 b),(2,.int .i64 c)]=some [.int .i64 a,.int .i64 b,.int .i64 c,.slice none 0 0].toArray:=by kernel_rfl
theorem bt245_0_1_2 (a0T:TypeId)(a:Value)(b:Int)(c:Int):Tryz.prog.built 245 [(0,.iface a0T a),(1,.int .i64 b),(2,.int .i64 c)]=some [.iface a0T a,.int .i64 b,.int .i64 c,.slice none 0 0,.int .i64 0,.int .i64 0,.int .i64 0].toArray:=by kernel_rfl
theorem bt248_0 (a0T:TypeId)(a:Value):Tryz.prog.built 248 [(0,.iface a0T a)]=some [.iface a0T a].toArray:=by kernel_rfl
theorem bt251_0_1 (a:Option Addr)(b c:Nat)(d:Bool):Tryz.prog.built 251 [(0,.slice a b c),(1,.bool d)]=some [.slice a b c,.bool d].toArray:=by kernel_rfl
theorem bt255_0_1 (a0T:TypeId)(a:Value)(a1T:TypeId)(b:Value):Tryz.prog.built 255 [(0,.iface a0T a),(1,.iface a1T b)]=some [.iface a0T a,.iface a1T b,.int .i64 0,.bool false].toArray:=by kernel_rfl
theorem bt258_0 (a0T:TypeId)(a:Value):Tryz.prog.built 258 [(0,.iface a0T a)]=some [.iface a0T a,.int .i64 0,.bool false].toArray:=by kernel_rfl
theorem bt277_0 (a:Int):Tryz.prog.built 277 [(0,.int .i64 a)]=some [.int .i64 a].toArray:=by kernel_rfl
theorem bt279_0_1_2 (a:Int)(b:Int)(c:Int):Tryz.prog.built 279 [(0,.int .i64 a),(1,.int .i64 b),(2,.int .i64 c)]=some [.int .i64 a,.int .i64 b,.int .i64 c].toArray:=by kernel_rfl
theorem bt281_0_1_2_3_4 (a:Int)(b:Int)(c:Int)(d:Int)(e:Int):Tryz.prog.built 281 [(0,.int .i64 a),(1,.int .i64 b),(2,.int .i64 c),(3,.int .i64 d),(4,.int .i64 e)]=some [.int .i64 a,.int .i64 b,.int .i64 c,.int .i64 d,.int .i64 e].toArray:=by kernel_rfl
theorem bt283_0 (a:Int):Tryz.prog.built 283 [(0,.int .i64 a)]=some [.int .i64 a].toArray:=by kernel_rfl
theorem bt285_0 (a:Int):Tryz.prog.built 285 [(0,.int .i64 a)]=some [.int .i64 a].toArray:=by kernel_rfl
abbrev ptr0 (b:Nat):Value:= .pointer (some ⟨b,0,none⟩)
abbrev rowEM:=Rt.row rtEventMove 172 []
abbrev rowNd:=Rt.row rtNd 170 []
def FAt (t i m:Nat):Prop:= ∀{ρ:Env} {w:World} {d:Option Tmp} {x:Operand} {ty:TypeId} {pos:String} {af:Array Edge} {g:Option (Nat×Bool)} {b o:Nat} (_:ev ρ x= .pointer (some ⟨b,o,none⟩)),Do Tryz.prog ⟨d,.fieldAddr t x i,ty,pos,af,g⟩ ρ w (.pointer (some ⟨b,o+m,none⟩)) w
theorem fa26_0:FAt 26 0 0:=fun hx=>zX (n:=1) (m:=0) (by kernel_rfl) (by decide) hx
theorem fa26_1:FAt 26 1 1:=fun hx=>zX (n:=1) (m:=1) (by kernel_rfl) (by decide) hx
theorem fa26_2:FAt 26 2 2:=fun hx=>zX (n:=1) (m:=2) (by kernel_rfl) (by decide) hx
theorem fa35_0:FAt 35 0 0:=fun hx=>zX (n:=1) (m:=0) (by kernel_rfl) (by decide) hx
theorem fa35_1:FAt 35 1 1:=fun hx=>zX (n:=1) (m:=1) (by kernel_rfl) (by decide) hx
theorem fa37_0:FAt 37 0 0:=fun hx=>zX (n:=1) (m:=0) (by kernel_rfl) (by decide) hx
theorem fa37_1:FAt 37 1 1:=fun hx=>zX (n:=2) (m:=1) (by kernel_rfl) (by decide) hx
theorem fa37_2:FAt 37 2 3:=fun hx=>zX (n:=1) (m:=3) (by kernel_rfl) (by decide) hx
theorem fa40_0:FAt 40 0 0:=fun hx=>zX (n:=1) (m:=0) (by kernel_rfl) (by decide) hx
theorem fa40_1:FAt 40 1 1:=fun hx=>zX (n:=1) (m:=1) (by kernel_rfl) (by decide) hx
theorem fa40_2:FAt 40 2 2:=fun hx=>zX (n:=1) (m:=2) (by kernel_rfl) (by decide) hx
theorem fa63_0:FAt 63 0 0:=fun hx=>zX (n:=1) (m:=0) (by kernel_rfl) (by decide) hx
theorem fa70_0:FAt 70 0 0:=fun hx=>zX (n:=1) (m:=0) (by kernel_rfl) (by decide) hx
theorem fa70_1:FAt 70 1 1:=fun hx=>zX (n:=1) (m:=1) (by kernel_rfl) (by decide) hx
theorem fa70_2:FAt 70 2 2:=fun hx=>zX (n:=1) (m:=2) (by kernel_rfl) (by decide) hx
theorem fa70_3:FAt 70 3 3:=fun hx=>zX (n:=1) (m:=3) (by kernel_rfl) (by decide) hx
theorem fa70_4:FAt 70 4 4:=fun hx=>zX (n:=1) (m:=4) (by kernel_rfl) (by decide) hx
theorem fa70_5:FAt 70 5 5:=fun hx=>zX (n:=1) (m:=5) (by kernel_rfl) (by decide) hx
theorem fa70_6:FAt 70 6 6:=fun hx=>zX (n:=1) (m:=6) (by kernel_rfl) (by decide) hx
theorem fa95_0:FAt 95 0 0:=fun hx=>zX (n:=1) (m:=0) (by kernel_rfl) (by decide) hx
theorem fa95_1:FAt 95 1 1:=fun hx=>zX (n:=7) (m:=1) (by kernel_rfl) (by decide) hx
theorem fa122_0:FAt 122 0 0:=fun hx=>zX (n:=1) (m:=0) (by kernel_rfl) (by decide) hx
theorem fa122_1:FAt 122 1 1:=fun hx=>zX (n:=1) (m:=1) (by kernel_rfl) (by decide) hx
theorem fa122_2:FAt 122 2 2:=fun hx=>zX (n:=7) (m:=2) (by kernel_rfl) (by decide) hx
theorem fa146_0:FAt 146 0 0:=fun hx=>zX (n:=1) (m:=0) (by kernel_rfl) (by decide) hx
theorem fa146_1:FAt 146 1 1:=fun hx=>zX (n:=1) (m:=1) (by kernel_rfl) (by decide) hx
theorem fa146_2:FAt 146 2 2:=fun hx=>zX (n:=1) (m:=2) (by kernel_rfl) (by decide) hx
theorem fa146_3:FAt 146 3 3:=fun hx=>zX (n:=1) (m:=3) (by kernel_rfl) (by decide) hx
theorem fa146_4:FAt 146 4 4:=fun hx=>zX (n:=1) (m:=4) (by kernel_rfl) (by decide) hx
theorem fa148_0:FAt 148 0 0:=fun hx=>zX (n:=1) (m:=0) (by kernel_rfl) (by decide) hx
theorem fa148_1:FAt 148 1 1:=fun hx=>zX (n:=1) (m:=1) (by kernel_rfl) (by decide) hx
theorem fa172_0:FAt 172 0 0:=fun hx=>zX (n:=1) (m:=0) (by kernel_rfl) (by decide) hx
theorem fa172_1:FAt 172 1 1:=fun hx=>zX (n:=1) (m:=1) (by kernel_rfl) (by decide) hx
theorem fa172_2:FAt 172 2 2:=fun hx=>zX (n:=1) (m:=2) (by kernel_rfl) (by decide) hx
theorem fa215_0:FAt 215 0 0:=fun hx=>zX (n:=1) (m:=0) (by kernel_rfl) (by decide) hx
theorem fa215_1:FAt 215 1 1:=fun hx=>zX (n:=1) (m:=1) (by kernel_rfl) (by decide) hx
theorem fa215_2:FAt 215 2 2:=fun hx=>zX (n:=1) (m:=2) (by kernel_rfl) (by decide) hx
theorem fa215_3:FAt 215 3 3:=fun hx=>zX (n:=1) (m:=3) (by kernel_rfl) (by decide) hx
theorem fa222_0:FAt 222 0 0:=fun hx=>zX (n:=1) (m:=0) (by kernel_rfl) (by decide) hx
theorem fa222_1:FAt 222 1 1:=fun hx=>zX (n:=1) (m:=1) (by kernel_rfl) (by decide) hx
theorem fa222_2:FAt 222 2 2:=fun hx=>zX (n:=1) (m:=2) (by kernel_rfl) (by decide) hx
theorem fa226_0:FAt 226 0 0:=fun hx=>zX (n:=1) (m:=0) (by kernel_rfl) (by decide) hx
theorem fa226_1:FAt 226 1 1:=fun hx=>zX (n:=1) (m:=1) (by kernel_rfl) (by decide) hx
theorem fa226_2:FAt 226 2 2:=fun hx=>zX (n:=1) (m:=2) (by kernel_rfl) (by decide) hx
theorem fa226_3:FAt 226 3 3:=fun hx=>zX (n:=1) (m:=3) (by kernel_rfl) (by decide) hx
theorem fa226_4:FAt 226 4 4:=fun hx=>zX (n:=1) (m:=4) (by kernel_rfl) (by decide) hx
theorem fa226_5:FAt 226 5 5:=fun hx=>zX (n:=1) (m:=5) (by kernel_rfl) (by decide) hx
theorem fa226_6:FAt 226 6 6:=fun hx=>zX (n:=1) (m:=6) (by kernel_rfl) (by decide) hx
theorem fa241_0:FAt 241 0 0:=fun hx=>zX (n:=1) (m:=0) (by kernel_rfl) (by decide) hx
theorem fa241_1:FAt 241 1 1:=fun hx=>zX (n:=1) (m:=1) (by kernel_rfl) (by decide) hx
theorem fa241_2:FAt 241 2 2:=fun hx=>zX (n:=1) (m:=2) (by kernel_rfl) (by decide) hx
theorem fa241_3:FAt 241 3 3:=fun hx=>zX (n:=1) (m:=3) (by kernel_rfl) (by decide) hx
theorem fa245_0:FAt 245 0 0:=fun hx=>zX (n:=1) (m:=0) (by kernel_rfl) (by decide) hx
theorem fa245_1:FAt 245 1 1:=fun hx=>zX (n:=1) (m:=1) (by kernel_rfl) (by decide) hx
theorem fa245_2:FAt 245 2 2:=fun hx=>zX (n:=1) (m:=2) (by kernel_rfl) (by decide) hx
theorem fa245_3:FAt 245 3 3:=fun hx=>zX (n:=1) (m:=3) (by kernel_rfl) (by decide) hx
theorem fa245_4:FAt 245 4 4:=fun hx=>zX (n:=3) (m:=4) (by kernel_rfl) (by decide) hx
theorem fa248_0:FAt 248 0 0:=fun hx=>zX (n:=1) (m:=0) (by kernel_rfl) (by decide) hx
theorem fa251_0:FAt 251 0 0:=fun hx=>zX (n:=1) (m:=0) (by kernel_rfl) (by decide) hx
theorem fa251_1:FAt 251 1 1:=fun hx=>zX (n:=1) (m:=1) (by kernel_rfl) (by decide) hx
theorem fa255_0:FAt 255 0 0:=fun hx=>zX (n:=1) (m:=0) (by kernel_rfl) (by decide) hx
theorem fa255_1:FAt 255 1 1:=fun hx=>zX (n:=1) (m:=1) (by kernel_rfl) (by decide) hx
theorem fa255_2:FAt 255 2 2:=fun hx=>zX (n:=1) (m:=2) (by kernel_rfl) (by decide) hx
theorem fa255_3:FAt 255 3 3:=fun hx=>zX (n:=1) (m:=3) (by kernel_rfl) (by decide) hx
theorem fa258_0:FAt 258 0 0:=fun hx=>zX (n:=1) (m:=0) (by kernel_rfl) (by decide) hx
theorem fa258_1:FAt 258 1 1:=fun hx=>zX (n:=1) (m:=1) (by kernel_rfl) (by decide) hx
theorem fa258_2:FAt 258 2 2:=fun hx=>zX (n:=1) (m:=2) (by kernel_rfl) (by decide) hx
theorem fa277_0:FAt 277 0 0:=fun hx=>zX (n:=1) (m:=0) (by kernel_rfl) (by decide) hx
theorem fa279_0:FAt 279 0 0:=fun hx=>zX (n:=1) (m:=0) (by kernel_rfl) (by decide) hx
theorem fa279_1:FAt 279 1 1:=fun hx=>zX (n:=1) (m:=1) (by kernel_rfl) (by decide) hx
theorem fa279_2:FAt 279 2 2:=fun hx=>zX (n:=1) (m:=2) (by kernel_rfl) (by decide) hx
theorem fa281_0:FAt 281 0 0:=fun hx=>zX (n:=1) (m:=0) (by kernel_rfl) (by decide) hx
theorem fa281_1:FAt 281 1 1:=fun hx=>zX (n:=1) (m:=1) (by kernel_rfl) (by decide) hx
theorem fa281_2:FAt 281 2 2:=fun hx=>zX (n:=1) (m:=2) (by kernel_rfl) (by decide) hx
theorem fa281_3:FAt 281 3 3:=fun hx=>zX (n:=1) (m:=3) (by kernel_rfl) (by decide) hx
theorem fa281_4:FAt 281 4 4:=fun hx=>zX (n:=1) (m:=4) (by kernel_rfl) (by decide) hx
theorem fa283_0:FAt 283 0 0:=fun hx=>zX (n:=1) (m:=0) (by kernel_rfl) (by decide) hx
theorem fa285_0:FAt 285 0 0:=fun hx=>zX (n:=1) (m:=0) (by kernel_rfl) (by decide) hx
theorem en14:Go.OB.Enters Tryz.prog 14:=⟨_,Tryz.func14,rfl,by kernel_rfl⟩
theorem en15:Go.OB.Enters Tryz.prog 15:=⟨_,Tryz.func15,rfl,by kernel_rfl⟩
theorem en16:Go.OB.Enters Tryz.prog 16:=⟨_,Tryz.func16,rfl,by kernel_rfl⟩
theorem en23:Go.OB.Enters Tryz.prog 23:=⟨_,Tryz.func23,rfl,by kernel_rfl⟩
theorem en24:Go.OB.Enters Tryz.prog 24:=⟨_,Tryz.func24,rfl,by kernel_rfl⟩
theorem en25:Go.OB.Enters Tryz.prog 25:=⟨_,Tryz.func25,rfl,by kernel_rfl⟩
theorem en26:Go.OB.Enters Tryz.prog 26:=⟨_,Tryz.func26,rfl,by kernel_rfl⟩
theorem en27:Go.OB.Enters Tryz.prog 27:=⟨_,Tryz.func27,rfl,by kernel_rfl⟩
theorem en28:Go.OB.Enters Tryz.prog 28:=⟨_,Tryz.func28,rfl,by kernel_rfl⟩
theorem en29:Go.OB.Enters Tryz.prog 29:=⟨_,Tryz.func29,rfl,by kernel_rfl⟩
theorem en31:Go.OB.Enters Tryz.prog 31:=⟨_,Tryz.func31,rfl,by kernel_rfl⟩
theorem en47:Go.OB.Enters Tryz.prog 47:=⟨_,Tryz.func47,rfl,by kernel_rfl⟩
theorem en52:Go.OB.Enters Tryz.prog 52:=⟨_,Tryz.func52,rfl,by kernel_rfl⟩
theorem en53:Go.OB.Enters Tryz.prog 53:=⟨_,Tryz.func53,rfl,by kernel_rfl⟩
theorem en54:Go.OB.Enters Tryz.prog 54:=⟨_,Tryz.func54,rfl,by kernel_rfl⟩
theorem en55:Go.OB.Enters Tryz.prog 55:=⟨_,Tryz.func55,rfl,by kernel_rfl⟩
theorem en73:Go.OB.Enters Tryz.prog 73:=⟨_,Tryz.func73,rfl,by kernel_rfl⟩
theorem en74:Go.OB.Enters Tryz.prog 74:=⟨_,Tryz.func74,rfl,by kernel_rfl⟩
theorem en75:Go.OB.Enters Tryz.prog 75:=⟨_,Tryz.func75,rfl,by kernel_rfl⟩
theorem en76:Go.OB.Enters Tryz.prog 76:=⟨_,Tryz.func76,rfl,by kernel_rfl⟩
theorem en77:Go.OB.Enters Tryz.prog 77:=⟨_,Tryz.func77,rfl,by kernel_rfl⟩
theorem en78:Go.OB.Enters Tryz.prog 78:=⟨_,Tryz.func78,rfl,by kernel_rfl⟩
theorem en79:Go.OB.Enters Tryz.prog 79:=⟨_,Tryz.func79,rfl,by kernel_rfl⟩
theorem en80:Go.OB.Enters Tryz.prog 80:=⟨_,Tryz.func80,rfl,by kernel_rfl⟩
theorem en81:Go.OB.Enters Tryz.prog 81:=⟨_,Tryz.func81,rfl,by kernel_rfl⟩
theorem en82:Go.OB.Enters Tryz.prog 82:=⟨_,Tryz.func82,rfl,by kernel_rfl⟩
theorem en86:Go.OB.Enters Tryz.prog 86:=⟨_,Tryz.func86,rfl,by kernel_rfl⟩
theorem en87:Go.OB.Enters Tryz.prog 87:=⟨_,Tryz.func87,rfl,by kernel_rfl⟩
theorem en88:Go.OB.Enters Tryz.prog 88:=⟨_,Tryz.func88,rfl,by kernel_rfl⟩
theorem en89:Go.OB.Enters Tryz.prog 89:=⟨_,Tryz.func89,rfl,by kernel_rfl⟩
theorem en95:Go.OB.Enters Tryz.prog 95:=⟨_,Tryz.func95,rfl,by kernel_rfl⟩
theorem en100:Go.OB.Enters Tryz.prog 100:=⟨_,Tryz.func100,rfl,by kernel_rfl⟩
theorem en112:Go.OB.Enters Tryz.prog 112:=⟨_,Tryz.func112,rfl,by kernel_rfl⟩
theorem en116:Go.OB.Enters Tryz.prog 116:=⟨_,Tryz.func116,rfl,by kernel_rfl⟩
theorem en117:Go.OB.Enters Tryz.prog 117:=⟨_,Tryz.func117,rfl,by kernel_rfl⟩
theorem en134:Go.OB.Enters Tryz.prog 134:=⟨_,Tryz.func134,rfl,by kernel_rfl⟩
theorem en135:Go.OB.Enters Tryz.prog 135:=⟨_,Tryz.func135,rfl,by kernel_rfl⟩
theorem en136:Go.OB.Enters Tryz.prog 136:=⟨_,Tryz.func136,rfl,by kernel_rfl⟩
theorem en137:Go.OB.Enters Tryz.prog 137:=⟨_,Tryz.func137,rfl,by kernel_rfl⟩
theorem en138:Go.OB.Enters Tryz.prog 138:=⟨_,Tryz.func138,rfl,by kernel_rfl⟩
theorem en139:Go.OB.Enters Tryz.prog 139:=⟨_,Tryz.func139,rfl,by kernel_rfl⟩
theorem en140:Go.OB.Enters Tryz.prog 140:=⟨_,Tryz.func140,rfl,by kernel_rfl⟩
theorem en141:Go.OB.Enters Tryz.prog 141:=⟨_,Tryz.func141,rfl,by kernel_rfl⟩
theorem en142:Go.OB.Enters Tryz.prog 142:=⟨_,Tryz.func142,rfl,by kernel_rfl⟩
theorem en144:Go.OB.Enters Tryz.prog 144:=⟨_,Tryz.func144,rfl,by kernel_rfl⟩
theorem en145:Go.OB.Enters Tryz.prog 145:=⟨_,Tryz.func145,rfl,by kernel_rfl⟩
theorem en146:Go.OB.Enters Tryz.prog 146:=⟨_,Tryz.func146,rfl,by kernel_rfl⟩
theorem en147:Go.OB.Enters Tryz.prog 147:=⟨_,Tryz.func147,rfl,by kernel_rfl⟩
theorem en148:Go.OB.Enters Tryz.prog 148:=⟨_,Tryz.func148,rfl,by kernel_rfl⟩
theorem en149:Go.OB.Enters Tryz.prog 149:=⟨_,Tryz.func149,rfl,by kernel_rfl⟩
theorem en150:Go.OB.Enters Tryz.prog 150:=⟨_,Tryz.func150,rfl,by kernel_rfl⟩
theorem en152:Go.OB.Enters Tryz.prog 152:=⟨_,Tryz.func152,rfl,by kernel_rfl⟩
theorem en153:Go.OB.Enters Tryz.prog 153:=⟨_,Tryz.func153,rfl,by kernel_rfl⟩
theorem en155:Go.OB.Enters Tryz.prog 155:=⟨_,Tryz.func155,rfl,by kernel_rfl⟩
theorem en166:Go.OB.Enters Tryz.prog 166:=⟨_,Tryz.func166,rfl,by kernel_rfl⟩
theorem en170:Go.OB.Enters Tryz.prog 170:=⟨_,Tryz.func170,rfl,by kernel_rfl⟩
theorem en171:Go.OB.Enters Tryz.prog 171:=⟨_,Tryz.func171,rfl,by kernel_rfl⟩
theorem en172:Go.OB.Enters Tryz.prog 172:=⟨_,Tryz.func172,rfl,by kernel_rfl⟩
theorem en173:Go.OB.Enters Tryz.prog 173:=⟨_,Tryz.func173,rfl,by kernel_rfl⟩
theorem en189:Go.OB.Enters Tryz.prog 189:=⟨_,Tryz.func189,rfl,by kernel_rfl⟩
theorem en190:Go.OB.Enters Tryz.prog 190:=⟨_,Tryz.func190,rfl,by kernel_rfl⟩
theorem en191:Go.OB.Enters Tryz.prog 191:=⟨_,Tryz.func191,rfl,by kernel_rfl⟩
theorem en192:Go.OB.Enters Tryz.prog 192:=⟨_,Tryz.func192,rfl,by kernel_rfl⟩
theorem en194:Go.OB.Enters Tryz.prog 194:=⟨_,Tryz.func194,rfl,by kernel_rfl⟩
theorem en196:Go.OB.Enters Tryz.prog 196:=⟨_,Tryz.func196,rfl,by kernel_rfl⟩
theorem en208:Go.OB.Enters Tryz.prog 208:=⟨_,Tryz.func208,rfl,by kernel_rfl⟩
theorem en210:Go.OB.Enters Tryz.prog 210:=⟨_,Tryz.func210,rfl,by kernel_rfl⟩
theorem en211:Go.OB.Enters Tryz.prog 211:=⟨_,Tryz.func211,rfl,by kernel_rfl⟩
theorem en226:Go.OB.Enters Tryz.prog 226:=⟨_,Tryz.func226,rfl,by kernel_rfl⟩
theorem en227:Go.OB.Enters Tryz.prog 227:=⟨_,Tryz.func227,rfl,by kernel_rfl⟩
theorem en228:Go.OB.Enters Tryz.prog 228:=⟨_,Tryz.func228,rfl,by kernel_rfl⟩
theorem en261:Go.OB.Enters Tryz.prog 261:=⟨_,Tryz.func261,rfl,by kernel_rfl⟩
theorem en262:Go.OB.Enters Tryz.prog 262:=⟨_,Tryz.func262,rfl,by kernel_rfl⟩
theorem en270:Go.OB.Enters Tryz.prog 270:=⟨_,Tryz.func270,rfl,by kernel_rfl⟩
theorem en310:Go.OB.Enters Tryz.prog 310:=⟨_,Tryz.func310,rfl,by kernel_rfl⟩
theorem en313:Go.OB.Enters Tryz.prog 313:=⟨_,Tryz.func313,rfl,by kernel_rfl⟩
theorem en316:Go.OB.Enters Tryz.prog 316:=⟨_,Tryz.func316,rfl,by kernel_rfl⟩
theorem en317:Go.OB.Enters Tryz.prog 317:=⟨_,Tryz.func317,rfl,by kernel_rfl⟩
theorem en319:Go.OB.Enters Tryz.prog 319:=⟨_,Tryz.func319,rfl,by kernel_rfl⟩
theorem en321:Go.OB.Enters Tryz.prog 321:=⟨_,Tryz.func321,rfl,by kernel_rfl⟩
theorem en323:Go.OB.Enters Tryz.prog 323:=⟨_,Tryz.func323,rfl,by kernel_rfl⟩
theorem en325:Go.OB.Enters Tryz.prog 325:=⟨_,Tryz.func325,rfl,by kernel_rfl⟩
theorem en327:Go.OB.Enters Tryz.prog 327:=⟨_,Tryz.func327,rfl,by kernel_rfl⟩
theorem en328:Go.OB.Enters Tryz.prog 328:=⟨_,Tryz.func328,rfl,by kernel_rfl⟩
theorem en329:Go.OB.Enters Tryz.prog 329:=⟨_,Tryz.func329,rfl,by kernel_rfl⟩
theorem en330:Go.OB.Enters Tryz.prog 330:=⟨_,Tryz.func330,rfl,by kernel_rfl⟩
theorem en332:Go.OB.Enters Tryz.prog 332:=⟨_,Tryz.func332,rfl,by kernel_rfl⟩
theorem en333:Go.OB.Enters Tryz.prog 333:=⟨_,Tryz.func333,rfl,by kernel_rfl⟩
theorem en335:Go.OB.Enters Tryz.prog 335:=⟨_,Tryz.func335,rfl,by kernel_rfl⟩
theorem en337:Go.OB.Enters Tryz.prog 337:=⟨_,Tryz.func337,rfl,by kernel_rfl⟩
theorem mixed:Tryz.prog.follows .mixedOrders=true:=by kernel_rfl
theorem Fd5w (d:Int)(r:Int)(c:Fd5 d=some r)(O S:List Nat)(w:World)(H:Hd O w w S []):
  Calls Tryz.prog 210 ([.int .u16 d]:List Value).toArray w fun e w'=>e= .returned (.int .i64 r)∧Hd O w w' S []:=by
 unfold Fd5 at c
 refine zW 11 Tryz.func210 rfl rfl rfl ?_
 refine zC fun z h=>zB ?_
 refine zK (.int .i64 0)<| (zG (zA (h _ _ ?_)))
 refine zC fun A i=>?_
 have k:=H
 have H:=H.rebase
 have B:=H
 refine wF H [0,1,2,3,4,5,6,7,8] [.pure,.pure,.pure,.pure,.pure,.pure,.pure,.pure,.pure] mixed (by kernel_rfl) (by kernel_rfl) (by kernel_rfl) rfl ?_
 refine Mx.zI rfl rfl rfl (fun w' hw'=>yM (v:= .int .u16 d) rfl) ?_
 obtain ⟨l,m,c⟩:=zF c
 refine Mx.zI rfl rfl rfl (fun w' hw'=>Do_shr' (j:=d) (q:=8) rfl rfl m) ?_
 obtain ⟨n,o,c⟩:=zF c
 refine Mx.zI rfl rfl rfl (fun w' hw'=>Do_sidx (s1:=[0,1,1,2,1,2,2,3,1,2,2,3,2,3,3,4,1,2,2,3,2,3,3,4,2,3,3,4,3,4,4,5,1,2,2,3,2,3,3,4,2,3,3,4,3,4,4,5,2,3,3,4,3,4,4,5,3,4,4,5,4,5,5,6,1,2,2,3,2,3,3,4,2,3,3,4,3,4,4,5,2,3,3,4,3,4,4,5,3,4,4,5,4,5,5,6,2,3,3,4,3,4,4,5,3,4,4,5,4,5,5,6,3,4,4,5,4,5,5,6,4,5,5,6,5,6,6,7,1,2,2,3,2,3,3,4,2,3,3,4,3,4,4,5,2,3,3,4,3,4,4,5,3,4,4,5,4,5,5,6,2,3,3,4,3,4,4,5,3,4,4,5,4,5,5,6,3,4,4,5,4,5,5,6,4,5,5,6,5,6,6,7,2,3,3,4,3,4,4,5,3,4,4,5,4,5,5,6,3,4,4,5,4,5,5,6,4,5,5,6,5,6,6,7,3,4,4,5,4,5,5,6,4,5,5,6,5,6,6,7,4,5,5,6,5,6,6,7,5,6,6,7,6,7,7,8]) (q:=l) u9 rfl rfl o) ?_
 refine Mx.zI rfl rfl rfl (fun w' hw'=>yM (v:= .int .u16 d) rfl) ?_
 obtain ⟨p,s,c⟩:=zD c
 refine Mx.zI rfl rfl rfl (fun w' hw'=>Do_and (a:=d) (b:=255) rfl rfl s) ?_
 obtain ⟨t,u,c⟩:=zF c
 refine Mx.zI rfl rfl rfl (fun w' hw'=>Do_sidx (s1:=[0,1,1,2,1,2,2,3,1,2,2,3,2,3,3,4,1,2,2,3,2,3,3,4,2,3,3,4,3,4,4,5,1,2,2,3,2,3,3,4,2,3,3,4,3,4,4,5,2,3,3,4,3,4,4,5,3,4,4,5,4,5,5,6,1,2,2,3,2,3,3,4,2,3,3,4,3,4,4,5,2,3,3,4,3,4,4,5,3,4,4,5,4,5,5,6,2,3,3,4,3,4,4,5,3,4,4,5,4,5,5,6,3,4,4,5,4,5,5,6,4,5,5,6,5,6,6,7,1,2,2,3,2,3,3,4,2,3,3,4,3,4,4,5,2,3,3,4,3,4,4,5,3,4,4,5,4,5,5,6,2,3,3,4,3,4,4,5,3,4,4,5,4,5,5,6,3,4,4,5,4,5,5,6,4,5,5,6,5,6,6,7,2,3,3,4,3,4,4,5,3,4,4,5,4,5,5,6,3,4,4,5,4,5,5,6,4,5,5,6,5,6,6,7,3,4,4,5,4,5,5,6,4,5,5,6,5,6,6,7,4,5,5,6,5,6,6,7,5,6,6,7,6,7,7,8]) (q:=p) u9 rfl rfl u) ?_
 obtain ⟨C,x,c⟩:=zD c
 refine Mx.zI rfl rfl rfl (fun w' hw'=>xM (a:=n) (b:=t) rfl rfl x) ?_
 obtain ⟨f,y,c⟩:=zD c
 refine Mx.zI rfl rfl rfl (fun w' hw'=>Do_conv u5 u3 rfl y) ?_
 refine Mx.zI rfl rfl rfl (fun w' hw'=>xN (v:= .int .i64 f) rfl) ?_
 refine Mx.xK fun D hS=>?_
 have H:=H.sees hS
 have H:=k.rejoin H
 refine (zA (i _ _ ?_))
 obtain rfl:=someI c
 refine (zY (post1 (v1:= .int .i64 f) rfl rfl ?_))
 exact ⟨rfl,H.pick [] (by decide)⟩
theorem Ferw (d:Int)(r:Bool)(c:Fer d=some r)(O S:List Nat)(w:World)(H:Hd O w w S []):
  Calls Tryz.prog 170 ([.int .u16 d]:List Value).toArray w fun e w'=>e= .returned (.bool r)∧Hd O w w' S []:=by
 unfold Fer at c
 refine zW 11 Tryz.func170 rfl rfl rfl ?_
 refine zC fun z k=>zB ?_
 refine zK (.bool false)<| (zG (zA (k _ _ ?_)))
 obtain ⟨h,c,l⟩:=zF c
 refine yK [2,3,4,5,6,7,8,9,10] (fun (g:Unit)=>[(2,.bool h)]) (fun g wl=>Hd O w wl S []) ?_ ?_
 ·skip
  refine zB ?_
  refine zJ (.int .u16 d) ?_
  obtain ⟨m,n,c⟩:=zD c
  refine zH (zQ (Do_leq (a:=d) (b:=4095) rfl rfl) n)<| yN (b:=m) rfl rfl rfl (fun f=>?_) (fun f=>?_)
  ·have c:=zS f c
   refine zJ (.int .u16 d) ?_
   have o:=H
   obtain ⟨p,s,c⟩:=zF c
   refine yG rfl rfl (yC en210 rfl) (Fd5w d _ s _ _ _ (H.enter [] [] (by decide) rfl)) ?_
   rintro _ A ⟨rfl,t⟩
   have H:=o.step (t.only:Only [] _ _)
   refine ⟨_,rfl,?_⟩
   obtain ⟨u,x,c⟩:=zF c
   refine zH (Do_rem' (j:=p) (q:=2) rfl rfl x) ?_
   obtain ⟨i,y,c⟩:=zD c
   refine zH (zQ (xA (a:=u) (b:=1) rfl rfl) y)<| zH (yL (v:= .bool i) rfl rfl)<| zK (.bool i) ?_
   obtain rfl:=someI c
   exact (zG (zA (meet ⟨(),(zL rfl zM),H.pick [] (by decide)⟩)))
  have c:=zT f c
  refine yI ?_
  refine yI ?_
  refine yI ?_
  refine yI ?_
  refine zH (yJ (v:= .bool false) rfl rfl)<| zK (.bool false) ?_
  obtain rfl:=someI c
  exact (zG (zA (meet ⟨(),(zL rfl zM),H.pick [] (by decide)⟩)))
 rintro _ ρ B H
 have c:=l
 obtain rfl:=someI c
 refine (zY (post1 (v1:= .bool h) rfl rfl ?_))
 exact ⟨rfl,H.pick [] (by decide)⟩
theorem Fauw (h:Int)(r:Int)(c:Fau h=some r)(O S:List Nat)(w:World)(H:Hd O w w S []):
  Calls Tryz.prog 116 ([.int .i64 h]:List Value).toArray w fun e w'=>e= .returned (.int .u16 r)∧Hd O w w' S []:=by
 unfold Fau at c
 refine zW 12 Tryz.func116 rfl rfl rfl ?_
 refine zC fun A j=>zB ?_
 refine zK (.int .u16 0)<| (zG (zA (j _ _ ?_)))
 refine zC fun B k=>zB ?_
 refine zJ (.int .i64 h) ?_
 obtain ⟨d,l,c⟩:=zD c
 refine zH (Do_conv u3 u96 rfl l)<| zK (.int .u16 d)<| (zG (zA (k _ _ ?_)))
 obtain ⟨f,c,m⟩:=zF c
 refine yK [3,6,7,8,9,10] (fun (g:Unit)=>[(3,.int .u16 f)]) (fun g wl=>Hd O w wl S []) ?_ ?_
 ·skip
  refine zC fun C n=>zB ?_
  refine zJ (.int .u16 d) ?_
  have o:=H
  obtain ⟨q,s,c⟩:=zF c
  refine yG rfl rfl (yC en170 rfl) (Ferw d _ s _ _ _ (H.enter [] [] (by decide) rfl)) ?_
  rintro _ D ⟨rfl,t⟩
  have H:=o.step (t.only:Only [] _ _)
  refine ⟨_,rfl,?_⟩
  obtain ⟨u,v,c⟩:=zD c
  refine zH (zQ (wI (p:=q) rfl) v)<| (zG (zA (n _ _ ?_)))
  refine zZ (b:=u) rfl (fun i=>?_) (fun i=>?_)
  ·have c:=zS i c
   refine zB ?_
   refine zJ (.int .u16 d) ?_
   obtain ⟨x,y,c⟩:=zD c
   refine zH (Do_or (a:=d) (b:=2048) rfl rfl y)<| zK (.int .u16 x) ?_
   obtain rfl:=someI c
   exact (zG (zA (meet ⟨(),(zL rfl zM),H.pick [] (by decide)⟩)))
  have c:=zT i c
  obtain rfl:=someI c
  exact (yA (zA (meet ⟨(),(zL rfl zM),H.pick [] (by decide)⟩)))
 rintro _ ρ E H
 have c:=m
 refine zC fun F z=>zB ?_
 refine zJ (.int .u16 f)<| zK (.int .u16 f)<| (zG (zA (z _ _ ?_)))
 obtain rfl:=someI c
 refine (zY (post1 (v1:= .int .u16 f) rfl rfl ?_))
 exact ⟨rfl,H.pick [] (by decide)⟩
theorem Fchw (d:Int)(r:Int)(c:Fch d=some r)(O S:List Nat)(w:World)(H:Hd O w w S []):
  Calls Tryz.prog 211 ([.int .u16 d]:List Value).toArray w fun e w'=>e= .returned (.int .i64 r)∧Hd O w w' S []:=by
 unfold Fch at c
 refine zW 6 Tryz.func211 rfl rfl rfl ?_
 refine zC fun l h=>zB ?_
 refine zK (.int .i64 0)<| (zG (zA (h _ _ ?_)))
 refine zC fun m i=>zB ?_
 refine zJ (.int .u16 d) ?_
 obtain ⟨n,j,c⟩:=zD c
 refine zH (Do_and (a:=d) (b:=2047) rfl rfl j) ?_
 obtain ⟨f,k,c⟩:=zD c
 refine zH (Do_conv u96 u3 rfl k)<| zK (.int .i64 f)<| (zG (zA (i _ _ ?_)))
 obtain rfl:=someI c
 refine (zY (post1 (v1:= .int .i64 f) rfl rfl ?_))
 exact ⟨rfl,H.pick [] (by decide)⟩
theorem Feyw (k:Option (Arr 64 Int))(v1:Option Addr)(r:Int)(c:Fey k=some r)(O S:List Nat)(w:World)(H:Hd O w w S [.fz (.pt (Rp.fl (Fl.arr 64 (Fl.int .u16))) v1 k)]):
  Calls Tryz.prog 171 ([.pointer v1]:List Value).toArray w fun e w'=>e= .returned (.int .i64 r)∧Hd O w w' S []:=by
 unfold Fey at c
 refine zW 15 Tryz.func171 rfl rfl rfl ?_
 refine zC fun K3 A=>zB ?_
 refine zK (.int .i64 0)<| (zG (zA (A _ _ ?_)))
 refine zC fun K4 B=>?_
 have C:=H
 have H:=H.rebase
 have H6:=H
 refine wF H [0,1,2,3,4,5,6,7,8,9,10,11,12] [.pure,.pure,.pure,.read,.fcall,.pure,.pure,.pure,.read,.fcall,.pure,.pure,.pure] mixed (by kernel_rfl) (by kernel_rfl) (by kernel_rfl) rfl ?_
 refine Mx.zI rfl rfl rfl (fun w' hw'=>yM (v:= .pointer v1) rfl) ?_
 obtain ⟨d,D,c⟩:=zF c
 obtain ⟨l,m,E,F,G,I,J,K⟩:=ptf_some ((H.item (i:=0) rfl):PtF _ _ _ _ _) D
 obtain rfl:E=(Fl.arr 64 (Fl.int .u16)).f d:=J
 have H:=H.fz (.at l m _) ⟨G,I,K⟩
 refine Mx.zI rfl rfl rfl (fun w' hw'=>yB (ad:=⟨l,m,none⟩) (congrArg Value.pointer F)) ?_
 obtain ⟨n,o,c⟩:=zF c
 refine Mx.zI rfl rfl rfl (fun w' hw'=>Do_idxA (X:=d) u98 sz96 rfl rfl o) ?_
 refine Mx.yO oS rfl rfl rfl (fun w' hw'=>Do_load1 (v:= .int .u16 n) one96 rfl (Cells.ix (e:=(Fl.int .u16)) (x:=d) ((H.sees hw').item (i:=1) rfl).2.2 o)) ?_
 have L:=H
 obtain ⟨p,M,c⟩:=zF c
 refine Mx.XL_fcall oS rfl rfl rfl (v:= .int .i64 p) (fun w' hw'=>yC en211 rfl) (fun w' hw'=>call_read (Fchw n _ M _ _ _ (Hd.fresh0 w'))) ?_
 have H:=L
 refine Mx.zI rfl rfl rfl (fun w' hw'=>yM (v:= .pointer v1) rfl) ?_
 obtain ⟨h,N,c⟩:=zF c
 obtain ⟨s,o26,P,Q,R,T,U,V⟩:=ptf_some ((H.item (i:=0) rfl):PtF _ _ _ _ _) N
 obtain rfl:P=(Fl.arr 64 (Fl.int .u16)).f h:=U
 have H:=H.fz (.at s o26 _) ⟨R,T,V⟩
 refine Mx.zI rfl rfl rfl (fun w' hw'=>yB (ad:=⟨s,o26,none⟩) (congrArg Value.pointer Q)) ?_
 obtain ⟨t,u,c⟩:=zF c
 refine Mx.zI rfl rfl rfl (fun w' hw'=>Do_idxA (X:=h) u98 sz96 rfl rfl u) ?_
 refine Mx.yO oS rfl rfl rfl (fun w' hw'=>Do_load1 (v:= .int .u16 t) one96 rfl (Cells.ix (e:=(Fl.int .u16)) (x:=h) ((H.sees hw').item (i:=2) rfl).2.2 u)) ?_
 have Y:=H
 obtain ⟨y,Z,c⟩:=zF c
 refine Mx.XL_fcall oS rfl rfl rfl (v:= .int .i64 y) (fun w' hw'=>yC en211 rfl) (fun w' hw'=>call_read (Fchw t _ Z _ _ _ (Hd.fresh0 w'))) ?_
 have H:=Y
 obtain ⟨aa,ab,c⟩:=zF c
 refine Mx.zI rfl rfl rfl (fun w' hw'=>Do_shl' (j:=y) (q:=11) rfl rfl ab) ?_
 obtain ⟨z,ac,c⟩:=zD c
 refine Mx.zI rfl rfl rfl (fun w' hw'=>Do_or (a:=p) (b:=aa) rfl rfl ac) ?_
 refine Mx.zI rfl rfl rfl (fun w' hw'=>xN (v:= .int .i64 z) rfl) ?_
 refine Mx.xK fun ah hS=>?_
 have H:=H.sees hS
 have H:=C.rejoin H
 refine (zA (B _ _ ?_))
 obtain rfl:=someI c
 refine (zY (post1 (v1:= .int .i64 z) rfl rfl ?_))
 exact ⟨rfl,H.pick [] (by decide)⟩
theorem Femw (j:Option (Arr 64 Int))(v1:Option Addr)(r:Int)(c:Fem j=some r)(O S:List Nat)(w:World)(H:Hd O w w S [.fz (.pt (Rp.fl (Fl.arr 64 (Fl.int .u16))) v1 j)]):
  Calls Tryz.prog 172 ([.pointer v1]:List Value).toArray w fun e w'=>e= .returned (.int .i64 r)∧Hd O w w' S []:=by
 unfold Fem at c
 refine zW 19 Tryz.func172 rfl rfl rfl ?_
 refine zC fun K3 y=>zB ?_
 refine zK (.int .i64 0)<| (zG (zA (y _ _ ?_)))
 refine zC fun K4 z=>zB ?_
 refine zK (.int .i64 0)<| (zG (zA (z _ _ ?_)))
 obtain ⟨h,c,A⟩:=zF c
 refine yK [3,4,5,6,7,8,9,10,11,12,13,14,15,16,17] (fun (g:Unit)=>[(3,.int .i64 h)]) (fun g wl=>Hd O w wl S []) ?_ ?_
 ·skip
  refine zC fun ai B=>zB ?_
  refine zJ (.int .i64 0)<| (zG (zA (B _ _ ?_)))
  refine yH ?_
  unfold Fe8 at c
  obtain ⟨C,m,D,c⟩:=yX c
  refine xI [3,4,5,6,7,8,9,10,11,12,13,14,15,16,17] (fun (g:Nat×Int×Int)=>[(3,.int .i64 g.2.1),(5,.int .i64 g.2.2)]) (fun g wl=>Hd O w wl S [.fz (.pt (Rp.fl (Fl.arr 64 (Fl.int .u16))) v1 j)]∧loopN C g.1 (g.2.1,g.2.2)=some h) (fun g=>g.1) (m,0,0) (zL rfl (zL rfl zM)) ⟨H.pick [0] (by decide),c⟩ ?_
  clear H c
  rintro ⟨m,n,d⟩ ρ aj ⟨H,c⟩
  obtain ⟨E,rfl,c⟩:=xC c
  have c:=xB D c
  refine zC fun ak F=>zB ?_
  obtain ⟨G,I,c⟩:=zD c
  refine zH (zQ (xR (a:=d) (b:=60) rfl rfl) I)<| (zG (zA (F _ _ ?_)))
  refine zC fun al J=>?_
  refine zZ (b:=G) rfl (fun k=>?_) (fun k=>?_)
  ·have c:=zS k c
   refine (yA (zA (J _ _ ?_)))
   refine zC fun am K=>?_
   refine yH ?_
   refine zC fun an L=>zB ?_
   refine zJ (.int .i64 d)<| zK (.int .i64 d)<| (zG (zA (L _ _ ?_)))
   refine zB ?_
   refine zJ (.int .i64 n)<| zJ (.pointer v1)<| zJ (.int .i64 d) ?_
   obtain ⟨ao,M,c⟩:=zD c
   refine zH (xM (a:=d) (b:=1) rfl rfl M) ?_
   obtain ⟨l,N,c⟩:=zF c
   obtain ⟨o,p,P,Q,R,T,U,V⟩:=ptf_some ((H.item (i:=0) rfl):PtF _ _ _ _ _) N
   obtain rfl:P=(Fl.arr 64 (Fl.int .u16)).f l:=U
   have H:=H.fz (.at o p _) ⟨R,T,V⟩
   refine zH (yB (ad:=⟨o,p,none⟩) (congrArg Value.pointer Q)) ?_
   obtain ⟨q,s,c⟩:=zF c
   refine zH (Do_idxA (X:=l) u98 sz96 rfl rfl s)<| zH (Do_load1 (v:= .int .u16 q) one96 rfl (Cells.ix (e:=(Fl.int .u16)) (x:=l) (H.item (i:=1) rfl).2.2 s)) ?_
   have Y:=H
   obtain ⟨Z,aa,c⟩:=zF c
   refine yG rfl rfl (yC en211 rfl) (Fchw q _ aa _ _ _ (H.enter [] [] (by decide) rfl)) ?_
   rintro _ ap ⟨rfl,ab⟩
   have H:=Y.step (ab.only:Only [] _ _)
   refine ⟨_,rfl,?_⟩
   obtain ⟨t,ac,c⟩:=zD c
   refine zH (Do_xor (a:=n) (b:=Z) rfl rfl ac)<| zK (.int .i64 t)<| (zG (yP (zA (K _ _ ?_))))
   refine zB ?_
   obtain ⟨u,ae,c⟩:=zD c
   refine zH (xM (a:=d) (b:=1) rfl rfl ae)<| zJ (.int .i64 u) ?_
   exact (zG (zA (meet ⟨(E,t,u),(zL rfl (zL rfl zM)),⟨H.pick [0] (by decide),c⟩,Nat.lt_succ_self _⟩)))
  have c:=zT k c
  obtain rfl:=someI c
  exact (xO (yQ (yQ (yZ (zA (meet ⟨(),(zL rfl zM),H.pick [] (by decide)⟩))))))
 rintro _ ρ aq H
 have c:=A
 refine zC fun ar af=>zB ?_
 refine zJ (.int .i64 h)<| zK (.int .i64 h)<| (zG (zA (af _ _ ?_)))
 obtain rfl:=someI c
 refine (zY (post1 (v1:= .int .i64 h) rfl rfl ?_))
 exact ⟨rfl,H.pick [] (by decide)⟩
set_option maxRecDepth 100000 in
theorem Fetw (d:Option (Arr 64 Int))(v1:Option Addr)(r:Int)(c:Fet d=some r)(O S:List Nat)(w:World)(H:Hd O w w S [.fz (.pt (Rp.fl (Fl.arr 64 (Fl.int .u16))) v1 d)]):
  Calls Tryz.prog 173 ([.pointer v1]:List Value).toArray w fun e w'=>e= .returned (.int .i64 r)∧Hd O w w' S []:=by
 unfold Fet at c
 refine zW 35 Tryz.func173 rfl rfl rfl ?_
 refine zC fun K3 K=>zB ?_
 refine zK (.int .i64 0)<| (zG (zA (K _ _ ?_)))
 refine zC fun K4 L=>zB ?_
 refine zK (.int .i64 0)<| (zG (zA (L _ _ ?_)))
 obtain ⟨k,c,M⟩:=zF c
 refine yK [3,4,5,6,7,8,9,10,11,12,13,14,15,16,17,18,19,20,21,22,23,24,25,26,27,28,29,30,31,32,33] (fun (g:Unit)=>[(3,.int .i64 k)]) (fun g wl=>Hd O w wl S []) ?_ ?_
 ·skip
  refine zC fun bj N=>zB ?_
  refine zJ (.int .i64 0)<| (zG (zA (N _ _ ?_)))
  refine yH ?_
  unfold Fe5 at c
  obtain ⟨P,A,Q,c⟩:=yX c
  refine xI [3,4,5,6,7,8,9,10,11,12,13,14,15,16,17,18,19,20,21,22,23,24,25,26,27,28,29,30,31,32,33] (fun (g:Nat×Int×Int)=>[(3,.int .i64 g.2.1),(7,.int .i64 g.2.2)]) (fun g wl=>Hd O w wl S [.fz (.pt (Rp.fl (Fl.arr 64 (Fl.int .u16))) v1 d)]∧loopN P g.1 (g.2.1,g.2.2)=some k) (fun g=>g.1) (A,0,0) (zL rfl (zL rfl zM)) ⟨H.pick [0] (by decide),c⟩ ?_
  clear H c
  rintro ⟨A,R,l⟩ ρ bk ⟨H,c⟩
  obtain ⟨T,rfl,c⟩:=xC c
  have c:=xB Q c
  refine zC fun bl U=>zB ?_
  obtain ⟨V,Y,c⟩:=zD c
  refine zH (zQ (xR (a:=l) (b:=62) rfl rfl) Y)<| (zG (zA (U _ _ ?_)))
  refine zC fun bm Z=>?_
  refine zZ (b:=V) rfl (fun n=>?_) (fun n=>?_)
  ·have c:=zS n c
   refine (yA (zA (Z _ _ ?_)))
   obtain ⟨o,c,aa⟩:=zF c
   refine yK [3,4,5,6,9,10,11,12,13,14,15,16,17,18,19,20,21,22,23,24,25,26,27,28,29,30,31,32] (fun (g:Unit)=>[(3,.int .i64 o)]) (fun g wl=>Hd O w wl S [.fz (.pt (Rp.fl (Fl.arr 64 (Fl.int .u16))) v1 d)]) ?_ ?_
   ·skip
    refine yH ?_
    refine zC fun bn ab=>zB ?_
    refine zJ (.int .i64 l)<| zK (.int .i64 l)<| (zG (zA (ab _ _ ?_)))
    refine zC fun bo ac=>zB ?_
    refine zK (.int .i64 11)<| (zG (zA (ac _ _ ?_)))
    refine yH ?_
    unfold Fe7 at c
    obtain ⟨ae,B,af,c⟩:=yX c
    refine xI [3,5,6,10,11,12,13,14,15,16,17,18,19,20,21,22,23,24,25,26,27,28,29,30,31,32] (fun (g:Nat×Int×Int)=>[(3,.int .i64 g.2.1),(5,.int .i64 g.2.2)]) (fun g wl=>Hd O w wl S [.fz (.pt (Rp.fl (Fl.arr 64 (Fl.int .u16))) v1 d)]∧loopN ae g.1 (g.2.1,g.2.2)=some o) (fun g=>g.1) (B,R,11) (zL rfl (zL rfl zM)) ⟨H.pick [0] (by decide),c⟩ ?_
    clear H c
    rintro ⟨B,m,h⟩ ρ bp ⟨H,c⟩
    obtain ⟨ag,rfl,c⟩:=xC c
    have c:=xB af c
    refine zC fun bq ah=>?_
    refine zC fun br ai=>zB ?_
    refine zJ (.int .i64 h) ?_
    obtain ⟨aj,ak,c⟩:=zD c
    refine zH (zQ (Do_geq (a:=h) (b:=0) rfl rfl) ak)<| (zG (zA (ai _ _ ?_)))
    refine zZ (b:=aj) rfl (fun s=>?_) (fun s=>?_)
    ·have c:=zS s c
     refine (yA (zA (ah _ _ ?_)))
     obtain ⟨C,c,al⟩:=zF c
     refine yK [3,6,14,15,16,17,18,19,20,21,22,23,24,25,26,27,28,29,30,31,32] (fun (g:Unit)=>[(3,.int .i64 C)]) (fun g wl=>Hd O w wl S [.fz (.pt (Rp.fl (Fl.arr 64 (Fl.int .u16))) v1 d)]) ?_ ?_
     ·skip
      refine yH ?_
      refine zC fun bt am=>zB ?_
      refine zJ (.int .i64 m) ?_
      obtain ⟨an,ao,c⟩:=zD c
      refine zH (Do_and (a:=m) (b:=2097152) rfl rfl ao) ?_
      obtain ⟨t,ap,c⟩:=zD c
      refine zH (zQ (wH (a:=an) (b:=0) rfl rfl) ap)<| zK (.bool t)<| (zG (zA (am _ _ ?_)))
      refine zC fun bu aq=>zB ?_
      refine zJ (.int .i64 m) ?_
      obtain ⟨ar,au,c⟩:=zF c
      refine zH (Do_shl' (j:=m) (q:=1) rfl rfl au) ?_
      obtain ⟨u,av,c⟩:=zD c
      refine zH (Do_and (a:=ar) (b:=4194303) rfl rfl av)<| zK (.int .i64 u)<| (zG (zA (aq _ _ ?_)))
      refine zC fun bv aw=>zB ?_
      refine zJ (.bool t)<| zJ (.pointer v1)<| zJ (.int .i64 l) ?_
      obtain ⟨y,ax,c⟩:=zF c
      obtain ⟨D,E,ay,az,a0,a1,a2,a3⟩:=ptf_some ((H.item (i:=0) rfl):PtF _ _ _ _ _) ax
      obtain rfl:ay=(Fl.arr 64 (Fl.int .u16)).f y:=a2
      have H:=H.fz (.at D E _) ⟨a0,a1,a3⟩
      refine zH (yB (ad:=⟨D,E,none⟩) (congrArg Value.pointer az)) ?_
      obtain ⟨F,G,c⟩:=zF c
      refine zH (Do_idxA (X:=y) u98 sz96 rfl rfl G)<| zH (Do_load1 (v:= .int .u16 F) one96 rfl (Cells.ix (e:=(Fl.int .u16)) (x:=y) (H.item (i:=1) rfl).2.2 G))<| zJ (.int .i64 h) ?_
      obtain ⟨a4,a5,c⟩:=zF c
      refine zH (Do_shr' (j:=F) (q:=h) rfl rfl a5) ?_
      obtain ⟨a6,a7,c⟩:=zD c
      refine zH (Do_and (a:=a4) (b:=1) rfl rfl a7) ?_
      obtain ⟨a8,a9,c⟩:=zD c
      refine zH (zQ (xA (a:=a6) (b:=1) rfl rfl) a9) ?_
      obtain ⟨ba,bb,c⟩:=zD c
      refine zH (zQ (Do_neqb (p:=t) (q:=a8) u4 rfl rfl) bb)<| (zG (zA (aw _ _ ?_)))
      refine zZ (b:=ba) rfl (fun z=>?_) (fun z=>?_)
      ·have c:=zS z c
       refine zB ?_
       refine zJ (.int .i64 u) ?_
       obtain ⟨bc,bd,c⟩:=zD c
       refine zH (Do_xor (a:=u) (b:=2097167) rfl rfl bd)<| zK (.int .i64 bc) ?_
       obtain rfl:=someI c
       exact (zG (yP (zA (meet ⟨(),(zL rfl zM),H.pick [0] (by decide)⟩))))
      have c:=zT z c
      obtain rfl:=someI c
      exact (yA (yP (zA (meet ⟨(),(zL rfl zM),H.pick [0] (by decide)⟩))))
     rintro _ ρ bw H
     have c:=al
     refine zB ?_
     refine zJ (.int .i64 h) ?_
     obtain ⟨I,be,c⟩:=zD c
     refine zH (Do_sub (a:=h) (b:=1) rfl rfl be)<| zK (.int .i64 I) ?_
     exact (zG (zA (meet ⟨(ag,C,I),(zL rfl (zL rfl zM)),⟨H.pick [0] (by decide),c⟩,Nat.lt_succ_self _⟩)))
    have c:=zT s c
    obtain rfl:=someI c
    exact (xO (yQ (yQ (yZ (yP (zA (meet ⟨(),(zL rfl zM),H.pick [0] (by decide)⟩)))))))
   rintro _ ρ bx H
   have c:=aa
   refine zB ?_
   obtain ⟨J,bf,c⟩:=zD c
   refine zH (xM (a:=l) (b:=1) rfl rfl bf)<| zJ (.int .i64 J) ?_
   exact (zG (zA (meet ⟨(T,o,J),(zL rfl (zL rfl zM)),⟨H.pick [0] (by decide),c⟩,Nat.lt_succ_self _⟩)))
  have c:=zT n c
  obtain rfl:=someI c
  exact (xO (yQ (yQ (yZ (zA (meet ⟨(),(zL rfl zM),H.pick [] (by decide)⟩))))))
 rintro _ ρ bz H
 have c:=M
 refine zC fun b0 bg=>zB ?_
 refine zJ (.int .i64 k)<| zK (.int .i64 k)<| (zG (zA (bg _ _ ?_)))
 obtain rfl:=someI c
 refine (zY (post1 (v1:= .int .i64 k) rfl rfl ?_))
 exact ⟨rfl,H.pick [] (by decide)⟩
theorem Fd1w (h:Arr 64 Int)(d:Nat)(r:(Arr 64 Int))(c:Fd1 h=some r)(O S:List Nat)(w:World)(H:Hd O w w S [.blk d ((Fl.arr 64 (Fl.int .u16)).f h) 98,.fz (.at 1 0 ((Fl.arr 4 (Fl.int .u16)).f yT))]):
  Calls Tryz.prog 117 ([ptr0 d]:List Value).toArray w fun e w'=>e= .returned (.tuple #[])∧Hd O w w' S [.blk d ((Fl.arr 64 (Fl.int .u16)).f r) 98]:=by
 unfold Fd1 at c
 refine zW 31 Tryz.func117 rfl rfl rfl ?_
 refine zC fun K4 E=>?_
 have F:=H
 have H:=H.rebase
 have H6:=H
 refine wF H [0,1,2,3,4,5,6,7,8] [.pure,.pure,.read,.pure,.pure,.read,.pure,.pure,.eff] mixed (by kernel_rfl) (by kernel_rfl) (by kernel_rfl) rfl ?_
 refine Mx.zI rfl rfl rfl (fun w' hw'=>yM (v:=ptr0 d) rfl) ?_
 refine Mx.zI rfl rfl rfl (fun w' hw'=>yM (v:=ptr0 d) rfl) ?_
 have G:=H
 have H:=H.freezeB (i:=0) rfl
 have H:=H.fz (.pt (Rp.fl (Fl.arr 64 (Fl.int .u16))) (some ⟨d,0,none⟩) (some h)) ⟨_,_,_,rfl,(H.item (i:=0) rfl).1,(H.item (i:=0) rfl).2.1,rfl,(H.item (i:=0) rfl).2.2⟩
 obtain ⟨A,I,c⟩:=zF c
 refine Mx.XL_call oS rfl rfl rfl (v:= .int .i64 A) (fun w' hw'=>yC en171 rfl) (fun w' hw'=>call_read (Feyw (some h) (some ⟨d,0,none⟩) _ I _ _ _ ((H.sees hw').enter [] [2] (by decide) rfl))) ?_
 have H:=G
 obtain ⟨an,J,c⟩:=zF c
 refine Mx.zI rfl rfl rfl (fun w' hw'=>Do_rem' (j:=A) (q:=4) rfl rfl J) ?_
 obtain ⟨n,B,c⟩:=zF c
 refine Mx.zI rfl rfl rfl (fun w' hw'=>Do_idxA (X:=yT) u264 sz96 rfl rfl B) ?_
 refine Mx.yO oS rfl rfl rfl (fun w' hw'=>Do_load1 (v:= .int .u16 n) one96 rfl (Cells.ix (e:=(Fl.int .u16)) (x:=yT) ((H.sees hw').item (i:=1) rfl).2.2 B)) ?_
 refine Mx.zI rfl rfl rfl (fun w' hw'=>yB rfl) ?_
 obtain ⟨ao,o,c⟩:=zF c
 refine Mx.zI rfl rfl rfl (fun w' hw'=>Do_idxA (X:=h) u98 sz96 rfl rfl o) ?_
 obtain ⟨l,K,c⟩:=zD c
 refine Mx.XL_exU oS rfl rfl (fun w' hw'=>Lx_storeA (e:=(Fl.int .u16)) (X:=h) (a:=n) (j:=0) (H.sees hw') 0 rfl sz96 rfl (v:= .int .u16 n) rfl rfl (Arr.at_lt o).1 (Arr.at_lt o).2 K) ?_
 rintro w' ap hw' H
 refine ⟨H.only,?_⟩
 refine Mx.xK fun aq hS=>?_
 have H:=H.sees hS
 have H:=F.rejoin H
 refine (zA (E _ _ ?_))
 refine zC fun ar L=>?_
 have M:=H
 have H:=H.rebase
 have au:=H
 refine wF H [0,1,2,3,4,5,6] [.pure,.pure,.read,.fcall,.pure,.pure,.eff] mixed (by kernel_rfl) (by kernel_rfl) (by kernel_rfl) rfl ?_
 refine Mx.zI rfl rfl rfl (fun w' hw'=>yM (v:=ptr0 d) rfl) ?_
 refine Mx.zI rfl rfl rfl (fun w' hw'=>yM (v:=ptr0 d) rfl) ?_
 have N:=H
 have H:=H.freezeB (i:=0) rfl
 have H:=H.fz (.pt (Rp.fl (Fl.arr 64 (Fl.int .u16))) (some ⟨d,0,none⟩) (some l)) ⟨_,_,_,rfl,(H.item (i:=0) rfl).1,(H.item (i:=0) rfl).2.1,rfl,(H.item (i:=0) rfl).2.2⟩
 obtain ⟨C,P,c⟩:=zF c
 refine Mx.XL_call oS rfl rfl rfl (v:= .int .i64 C) (fun w' hw'=>yC en172 rfl) (fun w' hw'=>call_read (Femw (some l) (some ⟨d,0,none⟩) _ P _ _ _ ((H.sees hw').enter [] [2] (by decide) rfl))) ?_
 have H:=N
 have Q:=H
 obtain ⟨p,R,c⟩:=zF c
 refine Mx.XL_fcall oS rfl rfl rfl (v:= .int .u16 p) (fun w' hw'=>yC en116 rfl) (fun w' hw'=>call_read (Fauw C _ R _ _ _ (Hd.fresh0 w'))) ?_
 have H:=Q
 refine Mx.zI rfl rfl rfl (fun w' hw'=>yB rfl) ?_
 obtain ⟨av,s,c⟩:=zF c
 refine Mx.zI rfl rfl rfl (fun w' hw'=>Do_idxA (X:=l) u98 sz96 rfl rfl s) ?_
 obtain ⟨m,T,c⟩:=zD c
 refine Mx.XL_exU oS rfl rfl (fun w' hw'=>Lx_storeA (e:=(Fl.int .u16)) (X:=l) (a:=p) (j:=61) (H.sees hw') 0 rfl sz96 rfl (v:= .int .u16 p) rfl rfl (Arr.at_lt s).1 (Arr.at_lt s).2 T) ?_
 rintro w' aw hw' H
 refine ⟨H.only,?_⟩
 refine Mx.xK fun ax hS=>?_
 have H:=H.sees hS
 have H:=M.rejoin H
 refine (zA (L _ _ ?_))
 refine zC fun ay U=>zB ?_
 refine zJ (ptr0 d) ?_
 have V:=H
 have H:=H.freezeB (i:=0) rfl
 have H:=H.fz (.pt (Rp.fl (Fl.arr 64 (Fl.int .u16))) (some ⟨d,0,none⟩) (some m)) ⟨_,_,_,rfl,(H.item (i:=0) rfl).1,(H.item (i:=0) rfl).2.1,rfl,(H.item (i:=0) rfl).2.2⟩
 obtain ⟨k,Y,c⟩:=zF c
 refine yG rfl rfl (yC en173 rfl) (Fetw (some m) (some ⟨d,0,none⟩) _ Y _ _ _ (H.enter [] [2] (by decide) rfl)) ?_
 rintro _ az ⟨rfl,Z⟩
 have H:=V.step (Z.only:Only [] _ _)
 refine ⟨_,rfl,?_⟩
 refine zK (.int .i64 k)<| (zG (zA (U _ _ ?_)))
 have aa:=H
 have H:=H.rebase
 have a0:=H
 refine WP_mix H [0,1,2,3,4,5,6,7,8,9,11,10,12,13] [.pure,.pure,.pure,.pure,.fcall,.pure,.pure,.fcall,.pure,.pure,.eff,.pure,.pure,.eff] mixed (by kernel_rfl) (by kernel_rfl) (by kernel_rfl) (by decide) ?_
 refine Mx.zI rfl rfl rfl (fun w' hw'=>yM (v:=ptr0 d) rfl) ?_
 refine Mx.zI rfl rfl rfl (fun w' hw'=>yM (v:=ptr0 d) rfl) ?_
 refine Mx.zI rfl rfl rfl (fun w' hw'=>yM (v:= .int .i64 k) rfl) ?_
 obtain ⟨ab,ac,c⟩:=zF c
 refine Mx.zI rfl rfl rfl (fun w' hw'=>Do_shr' (j:=k) (q:=11) rfl rfl ac) ?_
 have ad:=H
 obtain ⟨t,ae,c⟩:=zF c
 refine Mx.XL_fcall oS rfl rfl rfl (v:= .int .u16 t) (fun w' hw'=>yC en116 rfl) (fun w' hw'=>call_read (Fauw ab _ ae _ _ _ (Hd.fresh0 w'))) ?_
 have H:=ad
 refine Mx.zI rfl rfl rfl (fun w' hw'=>yM (v:= .int .i64 k) rfl) ?_
 obtain ⟨af,ag,c⟩:=zD c
 refine Mx.zI rfl rfl rfl (fun w' hw'=>Do_and (a:=k) (b:=2047) rfl rfl ag) ?_
 have ah:=H
 obtain ⟨u,ai,c⟩:=zF c
 refine Mx.XL_fcall oS rfl rfl rfl (v:= .int .u16 u) (fun w' hw'=>yC en116 rfl) (fun w' hw'=>call_read (Fauw af _ ai _ _ _ (Hd.fresh0 w'))) ?_
 have H:=ah
 refine Mx.zI rfl rfl rfl (fun w' hw'=>yB rfl) ?_
 obtain ⟨a1,y,c⟩:=zF c
 refine Mx.zI rfl rfl rfl (fun w' hw'=>Do_idxA (X:=m) u98 sz96 rfl rfl y) ?_
 refine Mx.zI rfl rfl rfl (fun w' hw'=>yB rfl) ?_
 obtain ⟨D,aj,c⟩:=zD c
 refine Mx.XL_exU oS rfl rfl (fun w' hw'=>Lx_storeA (e:=(Fl.int .u16)) (X:=m) (a:=t) (j:=62) (H.sees hw') 0 rfl sz96 rfl (v:= .int .u16 t) rfl rfl (Arr.at_lt y).1 (Arr.at_lt y).2 aj) ?_
 rintro w' a2 hw' H
 refine ⟨H.only,?_⟩
 obtain ⟨a3,z,c⟩:=zF c
 refine Mx.zI rfl rfl rfl (fun w' hw'=>Do_idxA (X:=D) u98 sz96 rfl rfl z) ?_
 obtain ⟨a4,ak,c⟩:=zD c
 refine Mx.XL_exU oS rfl rfl (fun w' hw'=>Lx_storeA (e:=(Fl.int .u16)) (X:=D) (a:=u) (j:=63) (H.sees hw') 0 rfl sz96 rfl (v:= .int .u16 u) rfl rfl (Arr.at_lt z).1 (Arr.at_lt z).2 ak) ?_
 rintro w' a5 hw' H
 refine ⟨H.only,?_⟩
 refine Mx.xK fun a6 hS=>?_
 have H:=H.sees hS
 have H:=aa.rejoin H
 obtain rfl:=someI c
 refine (post0n rfl ?_)
 exact ⟨rfl,H.pick [0] (by decide)⟩
end Go.Proofs.YtckmiljbaejijaaGreatDoor.L
