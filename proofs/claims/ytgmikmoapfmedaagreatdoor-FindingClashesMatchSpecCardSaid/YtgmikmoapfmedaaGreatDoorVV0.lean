/- Walks: what each function computes, for every argument; no condition but those that stand in the statements. -/
import Derived.Test.YtgmikmoapfmedaaGreatDoorRows
import Derived.Test.YtgmikmoapfmedaaGreatDoorVP
import Derived.Test.YtgmikmoapfmedaaGreatDoorXVc
import Derived.Test.YtgmikmoapfmedaaGreatDoorXVs
import Derived.Test.YtgmikmoapfmedaaGreatDoorLfS
import Derived.Test.YtgmikmoapfmedaaGreatDoorXVi
namespace Go.Proofs.YtgmikmoapfmedaaGreatDoor.L
open Go.RowKit Go.OB Go.Lf
set_option maxHeartbeats 4000000
abbrev En (f:FuncId):Prop:=Go.OB.Enters Tryz.prog f
theorem RN {P:Program}{N:Nat}{ops:Array Oper}{y:Code}{K:Env→World→Prop}{Q Q':Exit→Env→World→Prop}{ρ:Env}{w:World}(h: ∀ρ w,WP P N y Q ρ w→K ρ w)(n:WP P N y Q ρ w):RL P N ops (mO K Q') [] ρ w:=zQ (zG (h _ _ n))
theorem CW {P:Program}{f:FuncId}{fn:Func}{c:Code}{args:List Value}{w:World}{R:Ending→World→Prop}(N:Nat)(hf:P.funcs[f]? =some fn)(h:WP P N c (nH P fn.results R) (vV args) w)(hb:fn.body=some c:=by exact rfl)(hN:fn.ntmps=N:=by exact rfl)(hl:Nat.ble args.length N=true:=by exact rfl):Calls P f args.toArray w R:=kD N hf hb hN hl h
abbrev Cl (f:Nat)(a:List Value)(w:World)(R:Ending→World→Prop):Prop:=Calls Tryz.prog f a.toArray w R
abbrev i6 (n:Int):Value:= .int .i64 n
abbrev sb (s:Str):Value:= .string (bs s)
abbrev f1 {α:Type}(r:Rp α)(v:Value)(l:List α):Th:= .fz (.sl r v l)
theorem Hbc {O S:List Nat}{a w:World}{l:List Th}{b:Nat}{T:TypeId}{cs:List Value}(H:Hd O a w S l)(i:Nat)(h:l[i]? =some (.blk b cs T)):Cells w ⟨b,0,none⟩ cs:=Blk.cells (H.item h)
theorem Hbg {O S:List Nat}{a w:World}{l:List Th}{b:Nat}{T:TypeId}{cs:List Value}{v:Value}(H:Hd O a w S l)(i j:Nat)(h:l[i]? =some (.blk b cs T))(c:cs[j]? =some v):w.cell? ⟨b,0+j,none⟩=some v:=Cells.get (Blk.cells (H.item h)) c
theorem XP {P:Program}{I:World→Prop}{N:Nat}{ops:Array Oper}{κ:List MxM.Kd}{K:MxM.Mm→Env→World→Prop}{k:Nat}{M:MxM.Mm}{σ:List Nat}{rest:List Oper}{ρ:Env}{w:World}{d:Nat}{ty:TypeId}{pos:String}{af:Array Edge}{g:Option (Nat×Bool)}{v:Value}{op:Op}(h: ∀a,I a→Do P ⟨some d,op,ty,pos,af,g⟩ ρ a v a)(n:MxM.XL P I N ops κ K M σ rest (upd ρ d v) w)(hk:MxM.kdOf κ k= .pure:=by exact rfl)(hw:fP N ops ρ ⟨some d,op,ty,pos,af,g⟩=true:=by exact rfl)(hd:Nat.blt d N=true:=by exact rfl):MxM.XL P I N ops κ K M (k :: σ) (⟨some d,op,ty,pos,af,g⟩ :: rest) ρ w:=MxM.XL_pure hk hw hd h n
theorem XO {P:Program}{I:World→Prop}{N:Nat}{ops:Array Oper}{κ:List MxM.Kd}{K:MxM.Mm→Env→World→Prop}{k:Nat}{M:MxM.Mm}{σ:List Nat}{rest:List Oper}{ρ:Env}{w:World}{d:Nat}{ty:TypeId}{pos:String}{af:Array Edge}{g:Option (Nat×Bool)}{op:Op}(n:MxM.XL P I N ops κ K M σ rest (upd ρ d undef) w)(hk:MxM.kdOf κ k= .pure:=by exact rfl)(hw:fP N ops ρ ⟨some d,op,ty,pos,af,g⟩=false:=by exact rfl)(hd:Nat.blt d N=true:=by exact rfl):MxM.XL P I N ops κ K M (k :: σ) (⟨some d,op,ty,pos,af,g⟩ :: rest) ρ w:=MxM.XL_offp hk hw hd n
theorem XM {P:Program}{I:World→Prop}{N:Nat}{ops:Array Oper}{κ:List MxM.Kd}{K:MxM.Mm→Env→World→Prop}{k:Nat}{M:MxM.Mm}{σ:List Nat}{rest:List Oper}{ρ:Env}{w:World}{d:Nat}{ty:TypeId}{pos:String}{af:Array Edge}{g:Option (Nat×Bool)}{x:Operand}(v:Value)(n:MxM.XL P I N ops κ K M σ rest (upd ρ d v) w)(hx:ev ρ x=v:=by exact rfl)(hk:MxM.kdOf κ k= .pure:=by exact rfl)(hw:fP N ops ρ ⟨some d,.move x,ty,pos,af,g⟩=true:=by exact rfl)(hd:Nat.blt d N=true:=by exact rfl):MxM.XL P I N ops κ K M (k :: σ) (⟨some d,.move x,ty,pos,af,g⟩ :: rest) ρ w:=MxM.XL_pure hk hw hd (fun _ _=>bP hx) n
theorem XR {P:Program}{c:World}{e:List Nat}{N:Nat}{ops:Array Oper}{κ:List MxM.Kd}{K:MxM.Mm→Env→World→Prop}{k:Nat}{M:MxM.Mm}{σ:List Nat}{rest:List Oper}{ρ:Env}{w:World}{d:Nat}{ty:TypeId}{pos:String}{af:Array Edge}{g:Option (Nat×Bool)}{t:TypeId}{x:Operand}{O S:List Nat}{f:World}{l:List Th}{b:Nat}{T:TypeId}{cs:List Value}{v:Value}(o:dP P t)(H:Hd O f w S l)(i j:Nat)(h:l[i]? =some (.blk b cs T))(m:cs[j]? =some v)(n:MxM.XL P (fun a=>Only e c a) N ops κ K M σ rest (upd ρ d v) w)(hx:ev ρ x= .pointer (some ⟨b,0+j,none⟩):=by exact rfl)(hk:MxM.kdOf κ k= .read:=by exact rfl)(hw:fP N ops ρ ⟨some d,.load t x,ty,pos,af,g⟩=true:=by exact rfl)(hd:Nat.blt d N=true:=by exact rfl):MxM.XL P (fun a=>Only e c a) N ops κ K M (k :: σ) (⟨some d,.load t x,ty,pos,af,g⟩ :: rest) ρ w:=MxM.XL_read oS hk hw hd (fun _ p=>xO o hx (Hbg (H.sees p) i j h m)) n
theorem Ld {P:Program}{N:Nat}{ops:Array Oper}{Q:Exit→Env→World→Prop}{rest:List Oper}{ρ:Env}{w:World}{d:Nat}{t ty:TypeId}{x:Operand}{pos:String}{af:Array Edge}{g:Option (Nat×Bool)}{O S:List Nat}{a:World}{l:List Th}{b:Nat}{T:TypeId}{cs:List Value}{v:Value}(o:dP P t)(H:Hd O a w S l)(i j:Nat)(h:l[i]? =some (.blk b cs T))(c:cs[j]? =some v)(k:RL P N ops Q rest (upd ρ d v) w)(hx:ev ρ x= .pointer (some ⟨b,0+j,none⟩):=by exact rfl)(hw:fP N ops ρ ⟨some d,.load t x,ty,pos,af,g⟩=true:=by exact rfl)(hd:Nat.blt d N=true:=by exact rfl):RL P N ops Q (⟨some d,.load t x,ty,pos,af,g⟩ :: rest) ρ w:=zF (xO o hx (Hbg H i j h c)) k hw hd
theorem fG {f:FuncId}{fn:Func}(h:Tryz.prog.funcs[f]? =some fn)(a:fn.body.isSome=true:=by exact rfl)(b:(fn.name== "runtime.NumGoroutine")=false:=by kernel_rfl):Go.OB.Enters Tryz.prog f:=⟨_,h,a,b⟩
theorem u2:Tryz.prog.underlying 2=some (.int .i64):=Tryz.underlying2
theorem u3:Tryz.prog.underlying 3=some (.int .i64):=Tryz.underlying3
theorem u4:Tryz.prog.underlying 4=some .bool:=Tryz.underlying4
theorem u5:Tryz.prog.underlying 5=some (.int .u8):=Tryz.underlying5
theorem u9:Tryz.prog.underlying 9=some .string:=Tryz.underlying9
theorem u22:Tryz.prog.underlying 22=some (.slice 41):=Tryz.underlying22
theorem u23:Tryz.prog.underlying 23=some (.slice 60):=Tryz.underlying23
theorem u25:Tryz.prog.underlying 25=some (.slice 5):=Tryz.underlying25
theorem u28:Tryz.prog.underlying 28=some (.slice 64):=Tryz.underlying28
theorem u36:Tryz.prog.underlying 36=some (.slice 9):=Tryz.underlying36
theorem u37:Tryz.prog.underlying 37=some (.slice 46):=Tryz.underlying37
theorem u42:Tryz.prog.underlying 42=some (.slice 3):=Tryz.underlying42
theorem u47:Tryz.prog.underlying 47=some (.slice 51):=Tryz.underlying47
theorem u72:Tryz.prog.underlying 72=some (.slice 129):=Tryz.underlying72
theorem u73:Tryz.prog.underlying 73=some (.slice 132):=Tryz.underlying73
theorem u96:Tryz.prog.underlying 96=some (.int .u64):=Tryz.underlying96
theorem sO:Tryz.prog.underlying 125=some (.slice 127):=Tryz.underlying125
theorem u142:Tryz.prog.underlying 142=some (.int .u64):=Tryz.underlying142
theorem u156:Tryz.prog.underlying 156=some (.map 9 4):=Tryz.underlying156
theorem u201:Tryz.prog.underlying 201=some (.array 7 9):=Tryz.underlying201
theorem fo105_2:qC Tryz.prog 105 2=some (2,3):=by kernel_rfl
theorem fo105_3:qC Tryz.prog 105 3=some (3,9):=by kernel_rfl
theorem ui178:Tryz.prog.underlying 178=some (.interface (Tryz.prog.methodsAt 178)):=by kernel_rfl
theorem sz3:Sz Tryz.prog 3 1:=by unfold Sz; kernel_rfl
theorem sz4:Sz Tryz.prog 4 1:=by unfold Sz; kernel_rfl
theorem sz9:Sz Tryz.prog 9 1:=by unfold Sz; kernel_rfl
theorem sz25:Sz Tryz.prog 25 1:=by unfold Sz; kernel_rfl
theorem sz36:Sz Tryz.prog 36 1:=by unfold Sz; kernel_rfl
theorem wZ:Sz Tryz.prog 39 2:=by unfold Sz; kernel_rfl
theorem bQ:Sz Tryz.prog 41 4:=by unfold Sz; kernel_rfl
theorem bF:Sz Tryz.prog 46 3:=by unfold Sz; kernel_rfl
theorem sz51:Sz Tryz.prog 51 2:=by unfold Sz; kernel_rfl
theorem sN:Sz Tryz.prog 60 3:=by unfold Sz; kernel_rfl
theorem sz64:Sz Tryz.prog 64 3:=by unfold Sz; kernel_rfl
theorem sz73:Sz Tryz.prog 73 1:=by unfold Sz; kernel_rfl
theorem nV:Sz Tryz.prog 75 3:=by unfold Sz; kernel_rfl
theorem sz89:Sz Tryz.prog 89 1:=by unfold Sz; kernel_rfl
theorem nU:Sz Tryz.prog 98 3:=by unfold Sz; kernel_rfl
theorem wL:Sz Tryz.prog 105 4:=by unfold Sz; kernel_rfl
theorem sz109:Sz Tryz.prog 109 2:=by unfold Sz; kernel_rfl
theorem dM:Sz Tryz.prog 127 7:=by unfold Sz; kernel_rfl
theorem aO:Sz Tryz.prog 132 8:=by unfold Sz; kernel_rfl
theorem sz156:Sz Tryz.prog 156 1:=by unfold Sz; kernel_rfl
theorem sz203:Sz Tryz.prog 203 7:=by unfold Sz; kernel_rfl
theorem fK:dP Tryz.prog 3:=by unfold dP; kernel_rfl
theorem jS:dP Tryz.prog 4:=by unfold dP; kernel_rfl
theorem dW:dP Tryz.prog 9:=by unfold dP; kernel_rfl
theorem one25:dP Tryz.prog 25:=by unfold dP; kernel_rfl
theorem one29:dP Tryz.prog 29:=by unfold dP; kernel_rfl
theorem aEi:dP Tryz.prog 36:=by unfold dP; kernel_rfl
theorem kS:dP Tryz.prog 37:=by unfold dP; kernel_rfl
theorem one72:dP Tryz.prog 72:=by unfold dP; kernel_rfl
theorem mM:dP Tryz.prog 73:=by unfold dP; kernel_rfl
theorem one89:dP Tryz.prog 89:=by unfold dP; kernel_rfl
theorem kG:dP Tryz.prog 96:=by unfold dP; kernel_rfl
theorem rG:dP Tryz.prog 103:=by unfold dP; kernel_rfl
theorem rF:dP Tryz.prog 125:=by unfold dP; kernel_rfl
theorem one156:dP Tryz.prog 156:=by unfold dP; kernel_rfl
theorem qB:Agg Tryz.prog 39:=by unfold Agg; kernel_rfl
theorem mP:Agg Tryz.prog 41:=by unfold Agg; kernel_rfl
theorem kW:Agg Tryz.prog 46:=by unfold Agg; kernel_rfl
theorem agg51:Agg Tryz.prog 51:=by unfold Agg; kernel_rfl
theorem agg60:Agg Tryz.prog 60:=by unfold Agg; kernel_rfl
theorem jK:Agg Tryz.prog 75:=by unfold Agg; kernel_rfl
theorem qW:Agg Tryz.prog 98:=by unfold Agg; kernel_rfl
theorem aCq:Agg Tryz.prog 105:=by unfold Agg; kernel_rfl
theorem dV:Agg Tryz.prog 127:=by unfold Agg; kernel_rfl
theorem rJ:Agg Tryz.prog 132:=by unfold Agg; kernel_rfl
theorem agg203:Agg Tryz.prog 203:=by unfold Agg; kernel_rfl
theorem zero3:Go.OB.Zero Tryz.prog 3 ([i6 0]):=by unfold Go.OB.Zero; kernel_rfl
theorem zero4:Go.OB.Zero Tryz.prog 4 ([.bool false]):=by unfold Go.OB.Zero; kernel_rfl
theorem zero36:Go.OB.Zero Tryz.prog 36 ([.slice none 0 0]):=by unfold Go.OB.Zero; kernel_rfl
theorem rW:Go.OB.Zero Tryz.prog 41 ([.string (bs []),i6 0,.slice none 0 0,i6 0]):=by unfold Go.OB.Zero; kernel_rfl
theorem nG:Go.OB.Zero Tryz.prog 46 ([i6 0,i6 0,i6 0]):=by unfold Go.OB.Zero; kernel_rfl
theorem zero51:Go.OB.Zero Tryz.prog 51 ([i6 0,.bool false]):=by unfold Go.OB.Zero; kernel_rfl
theorem zero60:Go.OB.Zero Tryz.prog 60 ([.string (bs []),.string (bs []),i6 0]):=by unfold Go.OB.Zero; kernel_rfl
theorem aAe:Go.OB.Zero Tryz.prog 75 ([.slice none 0 0,.slice none 0 0,.slice none 0 0]):=by unfold Go.OB.Zero; kernel_rfl
theorem zero89:Go.OB.Zero Tryz.prog 89 ([.nilFunc]):=by unfold Go.OB.Zero; kernel_rfl
theorem aAr:Go.OB.Zero Tryz.prog 98 ([.bool false,.int .u64 0,.int .u64 0]):=by unfold Go.OB.Zero; kernel_rfl
theorem aEb:Go.OB.Zero Tryz.prog 105 ([i6 0,i6 0,i6 0,.string (bs [])]):=by unfold Go.OB.Zero; kernel_rfl
theorem zero109:Go.OB.Zero Tryz.prog 109 ([i6 0,i6 0]):=by unfold Go.OB.Zero; kernel_rfl
theorem kZ:Go.OB.Zero Tryz.prog 127 ([i6 0,.string (bs []),.string (bs []),i6 0,i6 0,i6 0,.slice none 0 0]):=by unfold Go.OB.Zero; kernel_rfl
theorem sW:Go.OB.Zero Tryz.prog 132 ([.string (bs []),i6 0,.string (bs []),.string (bs []),i6 0,i6 0,i6 0,.slice none 0 0]):=by unfold Go.OB.Zero; kernel_rfl
theorem zero156:Go.OB.Zero Tryz.prog 156 ([.map none]):=by unfold Go.OB.Zero; kernel_rfl
theorem aEh:Go.OB.Zero Tryz.prog 203 ([.bool false,.bool false,.bool false,.bool false,.bool false,i6 0,i6 0]):=by unfold Go.OB.Zero; kernel_rfl
theorem el3:El Tryz.prog 3 1 8 ([i6 0]):=⟨by kernel_rfl,by kernel_rfl,by kernel_rfl,by decide,by decide⟩
theorem el5:El Tryz.prog 5 1 1 ([.int .u8 0]):=⟨by kernel_rfl,by kernel_rfl,by kernel_rfl,by decide,by decide⟩
theorem el9:El Tryz.prog 9 1 16 ([.string (bs [])]):=⟨by kernel_rfl,by kernel_rfl,by kernel_rfl,by decide,by decide⟩
theorem el41:El Tryz.prog 41 4 56 ([.string (bs []),i6 0,.slice none 0 0,i6 0]):=⟨by kernel_rfl,by kernel_rfl,by kernel_rfl,by decide,by decide⟩
theorem el51:El Tryz.prog 51 2 16 ([i6 0,.bool false]):=⟨by kernel_rfl,by kernel_rfl,by kernel_rfl,by decide,by decide⟩
theorem el64:El Tryz.prog 64 3 24 ([i6 0,i6 0,i6 0]):=⟨by kernel_rfl,by kernel_rfl,by kernel_rfl,by decide,by decide⟩
theorem el127:El Tryz.prog 127 7 88 ([i6 0,.string (bs []),.string (bs []),i6 0,i6 0,i6 0,.slice none 0 0]):=⟨by kernel_rfl,by kernel_rfl,by kernel_rfl,by decide,by decide⟩
theorem aBk:El Tryz.prog 132 8 104 ([.string (bs []),i6 0,.string (bs []),.string (bs []),i6 0,i6 0,i6 0,.slice none 0 0]):=⟨by kernel_rfl,by kernel_rfl,by kernel_rfl,by decide,by decide⟩
theorem bz27:Tryz.prog.built 27 []=some ([.slice none 0 0]).toArray:=by kernel_rfl
theorem bz46:Tryz.prog.built 46 []=some ([i6 0,i6 0,i6 0]).toArray:=by kernel_rfl
theorem bt51_0_1 (a:Int)(b:Bool):Tryz.prog.built 51 [(0,i6 a),(1,.bool b)]=some [i6 a,.bool b].toArray:=by kernel_rfl
theorem bt64_0_1 (a:Int)(b:Int):Tryz.prog.built 64 [(0,i6 a),(1,i6 b)]=some [i6 a,i6 b,i6 0].toArray:=by kernel_rfl
theorem aCl (a:Int)(b:Int)(c:Int):Tryz.prog.built 64 [(0,i6 a),(1,i6 b),(2,i6 c)]=some [i6 a,i6 b,i6 c].toArray:=by kernel_rfl
theorem pM (a:Bool)(b:Int)(c:Int):Tryz.prog.built 98 [(0,.bool a),(1,.int .u64 b),(2,.int .u64 c)]=some [.bool a,.int .u64 b,.int .u64 c].toArray:=by kernel_rfl
theorem bt105_0_1 (a:Int)(b:Int):Tryz.prog.built 105 [(0,i6 a),(1,i6 b)]=some [i6 a,i6 b,i6 0,.string (bs [])].toArray:=by kernel_rfl
theorem bt107_0 (a:Str):Tryz.prog.built 107 [(0,sb a)]=some [sb a,i6 0,i6 0,i6 0,i6 0,.string (bs []),.slice none 0 0,.slice none 0 0,.slice none 0 0].toArray:=by kernel_rfl
theorem bt127_0_1 (a:Int)(b:Str):Tryz.prog.built 127 [(0,i6 a),(1,sb b)]=some [i6 a,sb b,.string (bs []),i6 0,i6 0,i6 0,.slice none 0 0].toArray:=by kernel_rfl
theorem bt132_0 (a:Str):Tryz.prog.built 132 [(0,sb a)]=some [sb a,i6 0,.string (bs []),.string (bs []),i6 0,i6 0,i6 0,.slice none 0 0].toArray:=by kernel_rfl
theorem aBj (a:Bool)(b:Bool)(c:Bool):Tryz.prog.built 203 [(0,.bool a),(2,.bool b),(3,.bool c)]=some [.bool a,.bool false,.bool b,.bool c,.bool false,i6 0,i6 0].toArray:=by kernel_rfl
abbrev fA (b:Nat):Value:= .pointer (some ⟨b,0,none⟩)
def FAt (t i m:Nat):Prop:= ∀{ρ:Env} {w:World} {d:Option Tmp} {x:Operand} {ty:TypeId} {pos:String} {af:Array Edge} {g:Option (Nat×Bool)} {b o:Nat} (_:ev ρ x= .pointer (some ⟨b,o,none⟩)),Do Tryz.prog ⟨d,.fieldAddr t x i,ty,pos,af,g⟩ ρ w (.pointer (some ⟨b,o+m,none⟩)) w
theorem faO {t i m:Nat}(n:Nat)(h:vM Tryz.prog t i=some (m,some n):=by kernel_rfl)(hn:n≠0:=by decide):FAt t i m:=fun hx=>vN h hn hx
theorem uG:FAt 27 0 0:=faO 1
theorem nC:FAt 39 0 0:=faO 1
theorem aA:FAt 39 1 1:=faO 1
theorem mV:FAt 41 0 0:=faO 1
theorem kV:FAt 41 1 1:=faO 2
theorem vF:FAt 41 2 3:=faO 1
theorem jB:FAt 46 0 0:=faO 1
theorem qA:FAt 46 1 1:=faO 1
theorem rX:FAt 46 2 2:=faO 1
theorem wX:FAt 51 0 0:=faO 1
theorem fa51_1:FAt 51 1 1:=faO 1
theorem wW:FAt 60 0 0:=faO 1
theorem aAm:FAt 60 1 1:=faO 1
theorem aAj:FAt 60 2 2:=faO 1
theorem fa64_0:FAt 64 0 0:=faO 1
theorem fa64_1:FAt 64 1 1:=faO 1
theorem aCp:FAt 64 2 2:=faO 1
theorem fa75_0:FAt 75 0 0:=faO 1
theorem aCu:FAt 75 1 1:=faO 1
theorem aQ:FAt 75 2 2:=faO 1
theorem rV:FAt 98 0 0:=faO 1
theorem mY:FAt 98 1 1:=faO 1
theorem rU:FAt 98 2 2:=faO 1
theorem bW:FAt 105 0 0:=faO 1
theorem fa105_2:FAt 105 2 2:=faO 1
theorem qG:FAt 105 3 3:=faO 1
theorem mF:FAt 107 0 0:=faO 1
theorem bZ:FAt 107 1 1:=faO 1
theorem dF:FAt 107 2 2:=faO 4
theorem tC:FAt 107 3 6:=faO 3
theorem fa109_1:FAt 109 1 1:=faO 1
theorem kY:FAt 127 0 0:=faO 1
theorem aEl:FAt 127 1 1:=faO 1
theorem fa127_2:FAt 127 2 2:=faO 1
theorem aAi:FAt 127 3 3:=faO 1
theorem aEm:FAt 127 4 4:=faO 1
theorem fa127_5:FAt 127 5 5:=faO 1
theorem nR:FAt 127 6 6:=faO 1
theorem nN:FAt 132 0 0:=faO 1
theorem qZ:FAt 132 1 1:=faO 7
theorem aEa:FAt 203 0 0:=faO 1
theorem aEd:FAt 203 1 1:=faO 1
theorem aEs:FAt 203 2 2:=faO 1
theorem aEe:FAt 203 3 3:=faO 1
theorem aEo:FAt 203 4 4:=faO 1
theorem fa203_5:FAt 203 5 5:=faO 1
theorem fa203_6:FAt 203 6 6:=faO 1
theorem en6:En 6:=fG Tryz.func6
theorem en7:En 7:=fG Tryz.func7
theorem en8:En 8:=fG Tryz.func8
theorem en9:En 9:=fG Tryz.func9
theorem en10:En 10:=fG Tryz.func10
theorem en17:En 17:=fG Tryz.func17
theorem en18:En 18:=fG Tryz.func18
theorem en19:En 19:=fG Tryz.func19
theorem en20:En 20:=fG Tryz.func20
theorem en21:En 21:=fG Tryz.func21
theorem en22:En 22:=fG Tryz.func22
theorem en23:En 23:=fG Tryz.func23
theorem en24:En 24:=fG Tryz.func24
theorem en25:En 25:=fG Tryz.func25
theorem en26:En 26:=fG Tryz.func26
theorem en27:En 27:=fG Tryz.func27
theorem en28:En 28:=fG Tryz.func28
theorem en29:En 29:=fG Tryz.func29
theorem en30:En 30:=fG Tryz.func30
theorem en31:En 31:=fG Tryz.func31
theorem en33:En 33:=fG Tryz.func33
theorem en35:En 35:=fG Tryz.func35
theorem en36:En 36:=fG Tryz.func36
theorem en41:En 41:=fG Tryz.func41
theorem en42:En 42:=fG Tryz.func42
theorem en43:En 43:=fG Tryz.func43
theorem en44:En 44:=fG Tryz.func44
theorem en45:En 45:=fG Tryz.func45
theorem en46:En 46:=fG Tryz.func46
theorem en47:En 47:=fG Tryz.func47
theorem en48:En 48:=fG Tryz.func48
theorem en49:En 49:=fG Tryz.func49
theorem en50:En 50:=fG Tryz.func50
theorem en51:En 51:=fG Tryz.func51
theorem en52:En 52:=fG Tryz.func52
theorem en53:En 53:=fG Tryz.func53
theorem en54:En 54:=fG Tryz.func54
theorem en55:En 55:=fG Tryz.func55
theorem en56:En 56:=fG Tryz.func56
theorem en58:En 58:=fG Tryz.func58
theorem en59:En 59:=fG Tryz.func59
theorem en60:En 60:=fG Tryz.func60
theorem en64:En 64:=fG Tryz.func64
theorem en67:En 67:=fG Tryz.func67
theorem en68:En 68:=fG Tryz.func68
theorem en69:En 69:=fG Tryz.func69
theorem en70:En 70:=fG Tryz.func70
theorem en71:En 71:=fG Tryz.func71
theorem en72:En 72:=fG Tryz.func72
theorem en73:En 73:=fG Tryz.func73
theorem en76:En 76:=fG Tryz.func76
theorem en78:En 78:=fG Tryz.func78
theorem en79:En 79:=fG Tryz.func79
theorem en80:En 80:=fG Tryz.func80
theorem en81:En 81:=fG Tryz.func81
theorem en82:En 82:=fG Tryz.func82
theorem en85:En 85:=fG Tryz.func85
theorem en86:En 86:=fG Tryz.func86
theorem en87:En 87:=fG Tryz.func87
theorem en88:En 88:=fG Tryz.func88
theorem en89:En 89:=fG Tryz.func89
theorem en90:En 90:=fG Tryz.func90
theorem en93:En 93:=fG Tryz.func93
theorem en95:En 95:=fG Tryz.func95
theorem en96:En 96:=fG Tryz.func96
theorem en97:En 97:=fG Tryz.func97
theorem en98:En 98:=fG Tryz.func98
theorem en99:En 99:=fG Tryz.func99
theorem en100:En 100:=fG Tryz.func100
theorem en101:En 101:=fG Tryz.func101
theorem en102:En 102:=fG Tryz.func102
theorem en103:En 103:=fG Tryz.func103
theorem en104:En 104:=fG Tryz.func104
theorem en105:En 105:=fG Tryz.func105
theorem en106:En 106:=fG Tryz.func106
theorem en107:En 107:=fG Tryz.func107
theorem en108:En 108:=fG Tryz.func108
theorem en109:En 109:=fG Tryz.func109
theorem en110:En 110:=fG Tryz.func110
theorem en112:En 112:=fG Tryz.func112
theorem en113:En 113:=fG Tryz.func113
theorem en115:En 115:=fG Tryz.func115
theorem en116:En 116:=fG Tryz.func116
theorem en117:En 117:=fG Tryz.func117
theorem en118:En 118:=fG Tryz.func118
theorem en130:En 130:=fG Tryz.func130
theorem en131:En 131:=fG Tryz.func131
theorem en137:En 137:=fG Tryz.func137
theorem en138:En 138:=fG Tryz.func138
theorem en139:En 139:=fG Tryz.func139
theorem en140:En 140:=fG Tryz.func140
theorem en141:En 141:=fG Tryz.func141
theorem en142:En 142:=fG Tryz.func142
theorem en144:En 144:=fG Tryz.func144
theorem en145:En 145:=fG Tryz.func145
theorem en146:En 146:=fG Tryz.func146
theorem en147:En 147:=fG Tryz.func147
theorem en148:En 148:=fG Tryz.func148
theorem en150:En 150:=fG Tryz.func150
theorem en157:En 157:=fG Tryz.func157
theorem en158:En 158:=fG Tryz.func158
theorem en167:En 167:=fG Tryz.func167
theorem en168:En 168:=fG Tryz.func168
theorem en169:En 169:=fG Tryz.func169
theorem en173:En 173:=fG Tryz.func173
theorem en174:En 174:=fG Tryz.func174
theorem mixed:Tryz.prog.follows .mixedOrders=true:=by kernel_rfl
theorem Faew (d:Int)(f:Int)(h:Int)(r:Bool)(c:Fae d f h=some r)(O S:List Nat)(w:World)(H:Hd O w w S []):
  Cl 45 [i6 d,i6 f,i6 h] w fun e l=>e= .returned (.bool r)∧Hd O w l S []:=by
 unfold Fae at c
 refine CW 15 Tryz.func45 ?_
 refine zB fun s m=>zA<| zI (.bool false)<| RN m ?_
 obtain ⟨j,c,n⟩:=zD c
 refine yL [6,7,8,9,10,11,12,13,14] (fun (g:Unit)=>[(6,.bool j)]) (fun g wl=>Hd O w wl S []) ?_ ?_
 ·skip
  refine zA ?_
  refine zH (i6 d)<| zH (i6 f) ?_
  obtain ⟨o,p,c⟩:=zC c
  refine zF (zL (bK (a:=d) (b:=f) rfl rfl) p)<| yR (b:=o) rfl rfl rfl (fun i=>?_) (fun i=>?_)
  ·have c:=zT i c
   refine zH (i6 d)<| zH (i6 h) ?_
   obtain ⟨k,q,c⟩:=zC c
   refine zF (zL (aB (a:=d) (b:=h) rfl rfl) q)<| zF (yD (v:= .bool k) rfl rfl)<| zI (.bool k) ?_
   obtain rfl:=gI c
   exact (zQ (zG (meet ⟨(),(zJ rfl zK),H.pick []⟩)))
  have c:=zU i c
  refine yC ?_
  refine yC ?_
  refine yC ?_
  refine zF (zY (v:= .bool false) rfl rfl)<| zI (.bool false) ?_
  obtain rfl:=gI c
  exact (zQ (zG (meet ⟨(),(zJ rfl zK),H.pick []⟩)))
 rintro _ ρ t H
 have c:=n
 obtain rfl:=gI c
 refine (zW (gZ (v1:= .bool j) rfl rfl ?_))
 exact ⟨rfl,H.pick []⟩
set_option maxRecDepth 100000 in
theorem Favw (d:Int)(r:Bool)(c:Fav d=some r)(O S:List Nat)(w:World)(H:Hd O w w S []):
  Cl 68 [.int .u8 d] w fun e p=>e= .returned (.bool r)∧Hd O w p S []:=by
 unfold Fav at c
 refine CW 21 Tryz.func68 ?_
 refine zB fun F q=>zA<| zI (.bool false)<| RN q ?_
 obtain ⟨k,c,s⟩:=zD c
 refine yL [2,3,4,5,6,7,8,9,10,11,12,13,14,15,16,17,18,19,20] (fun (g:Unit)=>[(2,.bool k)]) (fun g wl=>Hd O w wl S []) ?_ ?_
 ·skip
  refine zA ?_
  refine zH (.int .u8 d) ?_
  obtain ⟨t,u,c⟩:=zC c
  refine zF (zL (bK (a:=d) (b:=97) rfl rfl) u) ?_
  obtain ⟨l,c,x⟩:=zD c
  refine eF 4 [5,6,7,8] [(8,.bool l)] (fun wl=>Hd O w wl S []) ?_ ?_
  ·skip
   refine yR (b:=t) rfl rfl rfl (fun f=>?_) (fun f=>?_)
   ·have c:=zT f c
    refine zH (.int .u8 d) ?_
    obtain ⟨y,z,c⟩:=zC c
    refine zF (zL (aB (a:=d) (b:=122) rfl rfl) z)<| zF (yD (v:= .bool y) rfl rfl) ?_
    obtain rfl:=gI c
    exact zQ (zG (meet ⟨(zJ rfl zK),H.pick []⟩))
   have c:=zU f c
   refine yC ?_
   refine yC ?_
   refine zF (zY (v:= .bool false) rfl rfl) ?_
   obtain rfl:=gI c
   exact zQ (zG (meet ⟨(zJ rfl zK),H.pick []⟩))
  rintro ρ G H
  have c:=x
  obtain ⟨m,c,A⟩:=zD c
  refine eF 8 [9,10,11,12,13,14,15,16] [(16,.bool m)] (fun wl=>Hd O w wl S []) ?_ ?_
  ·skip
   refine yR (b:=l) rfl rfl rfl (fun h=>?_) (fun h=>?_)
   ·have c:=zT h c
    refine yC ?_
    refine yC ?_
    refine yC ?_
    refine yC ?_
    refine yC ?_
    refine yC ?_
    refine zF (yD (v:= .bool true) rfl rfl) ?_
    obtain rfl:=gI c
    exact zQ (zG (meet ⟨(zJ rfl zK),H.pick []⟩))
   have c:=zU h c
   refine zH (.int .u8 d) ?_
   obtain ⟨B,C,c⟩:=zC c
   refine zF (zL (bK (a:=d) (b:=48) rfl rfl) C)<| yR (b:=B) rfl rfl rfl (fun i=>?_) (fun i=>?_)
   ·have c:=zT i c
    refine zH (.int .u8 d) ?_
    obtain ⟨n,D,c⟩:=zC c
    refine zF (zL (aB (a:=d) (b:=57) rfl rfl) D)<| zF (yD (v:= .bool n) rfl rfl)<| zF (zY (v:= .bool n) rfl rfl) ?_
    obtain rfl:=gI c
    exact zQ (zG (meet ⟨(zJ rfl zK),H.pick []⟩))
   have c:=zU i c
   refine yC ?_
   refine yC ?_
   refine zF (zY (v:= .bool false) rfl rfl)<| zF (zY (v:= .bool false) rfl rfl) ?_
   obtain rfl:=gI c
   exact zQ (zG (meet ⟨(zJ rfl zK),H.pick []⟩))
  rintro ρ I H
  have c:=A
  refine yR (b:=m) rfl rfl rfl (fun j=>?_) (fun j=>?_)
  ·have c:=zT j c
   refine yC ?_
   refine yC ?_
   refine zF (yD (v:= .bool true) rfl rfl)<| zI (.bool true) ?_
   obtain rfl:=gI c
   exact (zQ (zG (meet ⟨(),(zJ rfl zK),H.pick []⟩)))
  have c:=zU j c
  refine zH (.int .u8 d) ?_
  obtain ⟨o,E,c⟩:=zC c
  refine zF (zL (xW (a:=d) (b:=45) rfl rfl) E)<| zF (zY (v:= .bool o) rfl rfl)<| zI (.bool o) ?_
  obtain rfl:=gI c
  exact (zQ (zG (meet ⟨(),(zJ rfl zK),H.pick []⟩)))
 rintro _ ρ J H
 have c:=s
 obtain rfl:=gI c
 refine (zW (gZ (v1:= .bool k) rfl rfl ?_))
 exact ⟨rfl,H.pick []⟩
set_option maxRecDepth 100000 in
theorem Fayw (c:Str)(r:Bool)(a:Fay c=some r)(O S:List Nat)(w:World)(H:Hd O w w S []):
  Cl 67 [sb c] w fun e P=>e= .returned (.bool r)∧Hd O w P S []:=by
 unfold Fay at a
 refine CW 21 Tryz.func67 ?_
 refine zB fun K1 Q=>zA<| zI (.bool false)<| RN Q<| zB fun a7 R=>zB fun a8 T=>zA<| zH (sb c)<| RN T<| yA ?_
 obtain ⟨x,a,U⟩:=zD a
 refine yL [4,5,6,7,8,9,10,11,12,13,14,15,16,17,18,19,20] (fun (g:Unit)=>[(4,.bool x)]) (fun g wl=>Hd O w wl S []) ?_ ?_
 ·skip
  refine zB fun a9 V=>zA ?_
  obtain ⟨y,X,a⟩:=zC a
  refine zF (zL (fU (s1:=c) (s2:=[112,104,97,115,101]) rfl rfl) X)<| zI (.bool y)<| RN V<| yB (b:=y) rfl (fun d=>?_) (fun d=>?_)
  ·have a:=zT d a
   obtain rfl:=gI a
   exact (zS (zG (meet ⟨(),(zJ rfl zK),H.pick []⟩)))
  have a:=zU d a
  refine zB fun ba Y=>zA ?_
  obtain ⟨z,Z,a⟩:=zC a
  refine zF (zL (fU (s1:=c) (s2:=[109,111,118,101]) rfl rfl) Z)<| zI (.bool z)<| RN Y<| yB (b:=z) rfl (fun f=>?_) (fun f=>?_)
  ·have a:=zT f a
   obtain rfl:=gI a
   exact (zS (zG (meet ⟨(),(zJ rfl zK),H.pick []⟩)))
  have a:=zU f a
  refine zB fun bb aa=>zA ?_
  obtain ⟨A,ab,a⟩:=zC a
  refine zF (zL (fU (s1:=c) (s2:=[114,117,108,101]) rfl rfl) ab)<| zI (.bool A)<| RN aa<| yB (b:=A) rfl (fun h=>?_) (fun h=>?_)
  ·have a:=zT h a
   obtain rfl:=gI a
   exact (zS (zG (meet ⟨(),(zJ rfl zK),H.pick []⟩)))
  have a:=zU h a
  refine zB fun bc ac=>zA ?_
  obtain ⟨B,ad,a⟩:=zC a
  refine zF (zL (fU (s1:=c) (s2:=[105,102]) rfl rfl) ad)<| zI (.bool B)<| RN ac<| yB (b:=B) rfl (fun i=>?_) (fun i=>?_)
  ·have a:=zT i a
   obtain rfl:=gI a
   exact (zS (zG (meet ⟨(),(zJ rfl zK),H.pick []⟩)))
  have a:=zU i a
  refine zB fun bd ae=>zA ?_
  obtain ⟨C,af,a⟩:=zC a
  refine zF (zL (fU (s1:=c) (s2:=[111,114]) rfl rfl) af)<| zI (.bool C)<| RN ae<| yB (b:=C) rfl (fun j=>?_) (fun j=>?_)
  ·have a:=zT j a
   obtain rfl:=gI a
   exact (zS (zG (meet ⟨(),(zJ rfl zK),H.pick []⟩)))
  have a:=zU j a
  refine zB fun be ag=>zA ?_
  obtain ⟨D,ah,a⟩:=zC a
  refine zF (zL (fU (s1:=c) (s2:=[97,110,100]) rfl rfl) ah)<| zI (.bool D)<| RN ag<| yB (b:=D) rfl (fun k=>?_) (fun k=>?_)
  ·have a:=zT k a
   obtain rfl:=gI a
   exact (zS (zG (meet ⟨(),(zJ rfl zK),H.pick []⟩)))
  have a:=zU k a
  refine zB fun bf ai=>zA ?_
  obtain ⟨E,aj,a⟩:=zC a
  refine zF (zL (fU (s1:=c) (s2:=[116,114,117,101]) rfl rfl) aj)<| zI (.bool E)<| RN ai<| yB (b:=E) rfl (fun l=>?_) (fun l=>?_)
  ·have a:=zT l a
   obtain rfl:=gI a
   exact (zS (zG (meet ⟨(),(zJ rfl zK),H.pick []⟩)))
  have a:=zU l a
  refine zB fun bg ak=>zA ?_
  obtain ⟨F,al,a⟩:=zC a
  refine zF (zL (fU (s1:=c) (s2:=[102,97,108,115,101]) rfl rfl) al)<| zI (.bool F)<| RN ak<| yB (b:=F) rfl (fun m=>?_) (fun m=>?_)
  ·have a:=zT m a
   obtain rfl:=gI a
   exact (zS (zG (meet ⟨(),(zJ rfl zK),H.pick []⟩)))
  have a:=zU m a
  refine zB fun bh am=>zA ?_
  obtain ⟨G,an,a⟩:=zC a
  refine zF (zL (fU (s1:=c) (s2:=[115,116,101,97,100,121]) rfl rfl) an)<| zI (.bool G)<| RN am<| yB (b:=G) rfl (fun n=>?_) (fun n=>?_)
  ·have a:=zT n a
   obtain rfl:=gI a
   exact (zS (zG (meet ⟨(),(zJ rfl zK),H.pick []⟩)))
  have a:=zU n a
  refine zB fun bi ao=>zA ?_
  obtain ⟨I,ap,a⟩:=zC a
  refine zF (zL (fU (s1:=c) (s2:=[110,111,116]) rfl rfl) ap)<| zI (.bool I)<| RN ao<| yB (b:=I) rfl (fun o=>?_) (fun o=>?_)
  ·have a:=zT o a
   obtain rfl:=gI a
   exact (zS (zG (meet ⟨(),(zJ rfl zK),H.pick []⟩)))
  have a:=zU o a
  refine zB fun bj aq=>zA ?_
  obtain ⟨J,ar,a⟩:=zC a
  refine zF (zL (fU (s1:=c) (s2:=[102,111,114]) rfl rfl) ar)<| zI (.bool J)<| RN aq<| yB (b:=J) rfl (fun p=>?_) (fun p=>?_)
  ·have a:=zT p a
   obtain rfl:=gI a
   exact (zS (zG (meet ⟨(),(zJ rfl zK),H.pick []⟩)))
  have a:=zU p a
  refine zB fun bk au=>zA ?_
  obtain ⟨K,av,a⟩:=zC a
  refine zF (zL (fU (s1:=c) (s2:=[119,105,116,104,105,110]) rfl rfl) av)<| zI (.bool K)<| RN au<| yB (b:=K) rfl (fun q=>?_) (fun q=>?_)
  ·have a:=zT q a
   obtain rfl:=gI a
   exact (zS (zG (meet ⟨(),(zJ rfl zK),H.pick []⟩)))
  have a:=zU q a
  refine zB fun bl aw=>zA ?_
  obtain ⟨L,ax,a⟩:=zC a
  refine zF (zL (fU (s1:=c) (s2:=[99,111,117,110,116]) rfl rfl) ax)<| zI (.bool L)<| RN aw<| yB (b:=L) rfl (fun s=>?_) (fun s=>?_)
  ·have a:=zT s a
   obtain rfl:=gI a
   exact (zS (zG (meet ⟨(),(zJ rfl zK),H.pick []⟩)))
  have a:=zU s a
  refine zB fun bm ay=>zA ?_
  obtain ⟨M,az,a⟩:=zC a
  refine zF (zL (fU (s1:=c) (s2:=[111,102]) rfl rfl) az)<| zI (.bool M)<| RN ay<| yB (b:=M) rfl (fun t=>?_) (fun t=>?_)
  ·have a:=zT t a
   obtain rfl:=gI a
   exact (zS (zG (meet ⟨(),(zJ rfl zK),H.pick []⟩)))
  have a:=zU t a
  refine zB fun bn a0=>zA ?_
  obtain ⟨N,a1,a⟩:=zC a
  refine zF (zL (fU (s1:=c) (s2:=[114,105,115,101,115]) rfl rfl) a1)<| zI (.bool N)<| RN a0<| yB (b:=N) rfl (fun u=>?_) (fun u=>?_)
  ·have a:=zT u a
   obtain rfl:=gI a
   exact (zS (zG (meet ⟨(),(zJ rfl zK),H.pick []⟩)))
  have a:=zU u a
  refine zA ?_
  obtain ⟨a2,a3,a⟩:=zC a
  refine zF (zL (fU (s1:=c) (s2:=[115,105,110,99,101]) rfl rfl) a3)<| zI (.bool a2) ?_
  obtain rfl:=gI a
  exact (zQ (zG (meet ⟨(),(zJ rfl zK),H.pick []⟩)))
 rintro _ ρ bo H
 have a:=U
 refine yB (b:=x) rfl (fun v=>?_) (fun v=>?_)
 ·have a:=zT v a
  refine zB fun bp a4=>zA<| zI (.bool true)<| RN a4 ?_
  obtain rfl:=gI a
  refine (zW (yJ (zV (gZ (v1:= .bool true) rfl rfl ?_))))
  exact ⟨rfl,H.pick []⟩
 have a:=zU v a
 refine (zS (yV (zG (R _ _ ?_))))
 refine zB fun bq a5=>zA<| zI (.bool false)<| RN a5 ?_
 obtain rfl:=gI a
 refine (zW (gZ (v1:= .bool false) rfl rfl ?_))
 exact ⟨rfl,H.pick []⟩
set_option maxRecDepth 100000 in
theorem Fagw (d:Str)(r:Bool)(c:Fag d=some r)(O S:List Nat)(w:World)(H:Hd O w w S []):
  Cl 41 [sb d] w fun e x=>e= .returned (.bool r)∧Hd O w x S []:=by
 unfold Fag at c
 refine CW 33 Tryz.func41 ?_
 refine zB fun K1 y=>zA<| zI (.bool false)<| RN y<| zB fun a5 z=>?_
 obtain ⟨n,c,A⟩:=zD c
 refine yL [4,5,6,7,8,9,10,11,12,13,14,15,16,17,18,19,20,21] (fun (g:Unit)=>[(21,.bool n)]) (fun g wl=>Hd O w wl S []) ?_ ?_
 ·skip
  refine zA ?_
  refine zH (sb d) ?_
  obtain ⟨B,C,c⟩:=zC c
  refine zF (yK (bM (s1:=d) u9 rfl) (congrArg (Value.int .i64) C)) ?_
  have D:=H
  obtain ⟨E,F,c⟩:=zD c
  refine zO rfl rfl (zM en45 rfl) (Faew B 1 30 _ F _ _ _ (H.enter [] [])) ?_
  rintro _ a6 ⟨rfl,G⟩
  have H:=D.step (G.only:Only [] _ _)
  refine ⟨_,rfl,?_⟩
  obtain ⟨I,J,c⟩:=zC c
  refine zF (zL (xX (p:=E) rfl) J) ?_
  obtain ⟨o,c,K⟩:=zD c
  refine eF 5 [8,9,10,11,12] [(12,.bool o)] (fun wl=>Hd O w wl S []) ?_ ?_
  ·skip
   refine yR (b:=I) rfl rfl rfl (fun h=>?_) (fun h=>?_)
   ·have c:=zT h c
    refine yC ?_
    refine yC ?_
    refine yC ?_
    refine zF (yD (v:= .bool true) rfl rfl) ?_
    obtain rfl:=gI c
    exact zQ (zG (meet ⟨(zJ rfl zK),H.pick []⟩))
   have c:=zU h c
   refine zH (sb d) ?_
   obtain ⟨L,M,c⟩:=zD c
   refine zF (nT (s1:=d) (q:=0) u9 rfl rfl M) ?_
   obtain ⟨N,P,c⟩:=zC c
   refine zF (zL (xC (a:=L) (b:=97) rfl rfl) P)<| zF (zY (v:= .bool N) rfl rfl) ?_
   obtain rfl:=gI c
   exact zQ (zG (meet ⟨(zJ rfl zK),H.pick []⟩))
  rintro ρ a7 H
  have c:=K
  obtain ⟨s,c,Q⟩:=zD c
  refine eF 5 [13,14,15,16,17] [(17,.bool s)] (fun wl=>Hd O w wl S []) ?_ ?_
  ·skip
   refine yR (b:=o) rfl rfl rfl (fun i=>?_) (fun i=>?_)
   ·have c:=zT i c
    refine yC ?_
    refine yC ?_
    refine yC ?_
    refine zF (yD (v:= .bool true) rfl rfl) ?_
    obtain rfl:=gI c
    exact zQ (zG (meet ⟨(zJ rfl zK),H.pick []⟩))
   have c:=zU i c
   refine zH (sb d) ?_
   obtain ⟨R,T,c⟩:=zD c
   refine zF (nT (s1:=d) (q:=0) u9 rfl rfl T) ?_
   obtain ⟨U,V,c⟩:=zC c
   refine zF (zL (eQ (a:=R) (b:=122) rfl rfl) V)<| zF (zY (v:= .bool U) rfl rfl) ?_
   obtain rfl:=gI c
   exact zQ (zG (meet ⟨(zJ rfl zK),H.pick []⟩))
  rintro ρ a8 H
  have c:=Q
  refine yR (b:=s) rfl rfl rfl (fun j=>?_) (fun j=>?_)
  ·have c:=zT j c
   refine yC ?_
   refine yC ?_
   refine zF (yD (v:= .bool true) rfl rfl) ?_
   obtain rfl:=gI c
   exact (zQ (zG (meet ⟨(),(zJ rfl zK),H.pick []⟩)))
  have c:=zU j c
  refine zH (sb d) ?_
  have X:=H
  obtain ⟨Y,Z,c⟩:=zD c
  refine zO rfl rfl (zM en67 rfl) (Fayw d _ Z _ _ _ (H.enter [] [])) ?_
  rintro _ a9 ⟨rfl,aa⟩
  have H:=X.step (aa.only:Only [] _ _)
  refine ⟨_,rfl,?_⟩
  refine zF (zY (v:= .bool Y) rfl rfl) ?_
  obtain rfl:=gI c
  exact (zQ (zG (meet ⟨(),(zJ rfl zK),H.pick []⟩)))
 rintro _ ρ ba H
 have c:=A
 refine yB (b:=n) rfl (fun k=>?_) (fun k=>?_)
 ·have c:=zT k c
  refine zB fun bb ab=>zA<| zI (.bool false)<| RN ab ?_
  obtain rfl:=gI c
  refine (zW (zV (gZ (v1:= .bool false) rfl rfl ?_)))
  exact ⟨rfl,H.pick []⟩
 have c:=zU k c
 refine zS (zG (z _ _ ?_))
 obtain ⟨ac,ad,c⟩:=xM c
 refine yL [2,3,22,23,24,25,26,27,28,29,30,31,32] (fun (g:Unit)=>[]) (fun g wl=>Hd O w wl S []∧ac ()=some r) ?_ ?_
 ·skip
  refine zB fun bc ae=>zA<| zH (sb d) ?_
  obtain ⟨af,ag,c⟩:=zC c
  refine zF (yK (bM (s1:=d) u9 rfl) (congrArg (Value.int .i64) ag))<| zH (i6 0)<| RN ae<| yA ?_
  unfold Fb6 at c
  obtain ⟨ah,t,ai,c⟩:=yM c
  refine xA [2,3,24,25,26,27,28,29,30,31,32] (fun (g:Nat×Int)=>[(24,i6 g.2)]) (fun g wl=>Hd O w wl S []∧fJ ah g.1 g.2=some r) (fun g=>g.1) (t,0) (zJ rfl zK) ⟨H.pick [],c⟩ ?_
  clear H c
  rintro ⟨t,f⟩ ρ bd ⟨H,c⟩
  obtain ⟨aj,rfl,c⟩:=yS c
  have c:=yT ai c
  refine zB fun be ak=>zA ?_
  obtain ⟨al,am,c⟩:=zC c
  refine zF (zL (xC (a:=f) (b:=af) rfl rfl) am)<| RN ak<| zB fun bf an=>yB (b:=al) rfl (fun l=>?_) (fun l=>?_)
  ·have c:=zT l c
   refine zS (zG (an _ _ ?_))
   refine zB fun bg ao=>?_
   refine yA ?_
   refine zB fun bh ap=>zA<| zH (i6 f)<| zI (i6 f)<| RN ap<| zB fun bi aq=>zA<| zH (sb d)<| zH (i6 f) ?_
   obtain ⟨ar,au,c⟩:=zD c
   refine zF (nT (s1:=d) (q:=f) u9 rfl rfl au) ?_
   have av:=H
   obtain ⟨aw,ax,c⟩:=zD c
   refine zO rfl rfl (zM en68 rfl) (Favw ar _ ax _ _ _ (H.enter [] [])) ?_
   rintro _ bj ⟨rfl,ay⟩
   have H:=av.step (ay.only:Only [] _ _)
   refine ⟨_,rfl,?_⟩
   obtain ⟨az,a0,c⟩:=zC c
   refine zF (zL (xX (p:=aw) rfl) a0)<| RN aq<| yB (b:=az) rfl (fun m=>?_) (fun m=>?_)
   ·have c:=zT m c
    refine zB fun bk a1=>zA<| zI (.bool false)<| RN a1 ?_
    obtain rfl:=gI c
    refine (zW (yJ (zV (zV (yJ (zV (gZ (v1:= .bool false) rfl rfl ?_)))))))
    exact ⟨rfl,H.pick []⟩
   have c:=zU m c
   refine (zS (yV (zG (ao _ _ ?_))))
   refine zA ?_
   obtain ⟨u,a2,c⟩:=zC c
   refine zF (xN (a:=f) (b:=1) rfl rfl a2)<| zH (i6 u) ?_
   exact (zQ (zG (meet ⟨(aj,u),(zJ rfl zK),⟨H.pick [],c⟩,Nat.lt_succ_self _⟩)))
  have c:=zU l c
  exact (xH (yI (yI (yU (zG (meet ⟨(),zK,⟨H.pick [],c⟩⟩))))))
 rintro _ ρ bl ⟨H,c⟩
 have c:=xR ad c
 refine zB fun bm a3=>zA<| zI (.bool true)<| RN a3 ?_
 obtain rfl:=gI c
 refine (zW (gZ (v1:= .bool true) rfl rfl ?_))
 exact ⟨rfl,H.pick []⟩
theorem Fcdw (a:gW)(b:gW)(v1:Value)(d:Nat)(f:Value)(r:Bool)(c:Fcd a b=some r)(O S:List Nat)(w:World)(H:Hd O w w S [.blk d [sb b.Name,i6 b.Series.Den,f,i6 b.Long] 41,f1 gY v1 a.Series.Samples,f1 gY f b.Series.Samples]):
  Cl 43 [.agg [sb a.Name,i6 a.Series.Den,v1,i6 a.Long].toArray,fA d] w fun e h=>e= .returned (.bool r)∧Hd O w h S [.blk d [sb b.Name,i6 b.Series.Den,f,i6 b.Long] 41]:=by
 unfold Fcd at c
 refine CW 9 Tryz.func43 ?_
 refine zB fun l i=>zA<| yQ rfl rfl (xQ (cs:=[sb a.Name,i6 a.Series.Den,v1,i6 a.Long]) rfl H) ?_
 rintro _ m ⟨n,rfl,H⟩
 refine zI (.bool false)<| RN i<| zB fun o j=>zA<| zF (mV rfl)<| Ld dW H 3 0 rfl rfl<| zF (mV rfl)<| Ld dW H 0 0 rfl rfl ?_
 obtain ⟨g,k,c⟩:=zC c
 refine zF (zL (fU (s1:=a.Name) (s2:=b.Name) rfl rfl) k)<| zI (.bool g)<| RN j ?_
 obtain rfl:=gI c
 refine (zW (gZ (v1:= .bool g) rfl rfl ?_))
 exact ⟨rfl,H.pick [0]⟩
theorem Fbjw (k:List gW)(p1c0:gW)(v1:Value)(h:Nat)(f:Value)(r:Int)(c:Fbj k p1c0=some r)(O S:List Nat)(w:World)(H:Hd O w w S [.blk h [sb p1c0.Name,i6 p1c0.Series.Den,f,i6 p1c0.Long] 41,f1 fH v1 k,f1 gY f p1c0.Series.Samples]):
  Cl 46 [v1,.func (.func 43) #[] #[fA h]] w fun e s=>e= .returned (i6 r)∧Hd O w s S [.blk h [sb p1c0.Name,i6 p1c0.Series.Den,f,i6 p1c0.Long] 41]:=by
 unfold Fbj at c
 refine CW 19 Tryz.func46 ?_
 refine zB fun K7 t=>zA<| zI (i6 0)<| RN t ?_
 obtain ⟨u,v,c⟩:=xM c
 refine yL [4,5,6,7,8,9,10,11,12,13,14,15,16,17,18] (fun (g:Unit)=>[]) (fun g wl=>Hd O w wl S [.blk h [sb p1c0.Name,i6 p1c0.Series.Den,f,i6 p1c0.Long] 41,f1 gY f p1c0.Series.Samples]∧u ()=some r) ?_ ?_
 ·skip
  refine zB fun ae x=>zA<| zH v1 ?_
  obtain ⟨y,z,c⟩:=zC c
  obtain ⟨af,ag,A⟩:=SlF.len ((H.item (i:=1) rfl))
  refine zF (yK (xI u22 A) (congrArg (Value.int .i64) z))<| zH (i6 0)<| RN x<| yA ?_
  unfold Fd5 at c
  obtain ⟨B,p,C,c⟩:=yM c
  refine xA [4,5,8,9,10,11,12,13,14,15,16,17,18] (fun (g:Nat×Int)=>[(8,i6 g.2)]) (fun g wl=>Hd O w wl S [.blk h [sb p1c0.Name,i6 p1c0.Series.Den,f,i6 p1c0.Long] 41,f1 gY f p1c0.Series.Samples,f1 fH v1 k]∧fJ B g.1 g.2=some r) (fun g=>g.1) (p,0) (zJ rfl zK) ⟨H.pick [0,2,1],c⟩ ?_
  clear H c
  rintro ⟨p,d⟩ ρ ah ⟨H,c⟩
  obtain ⟨D,rfl,c⟩:=yS c
  have c:=yT C c
  refine zB fun ai E=>zA ?_
  obtain ⟨F,G,c⟩:=zC c
  refine zF (zL (xC (a:=d) (b:=y) rfl rfl) G)<| RN E<| zB fun aj I=>yB (b:=F) rfl (fun l=>?_) (fun l=>?_)
  ·have c:=zT l c
   refine zS (zG (I _ _ ?_))
   refine zB fun ak J=>?_
   refine yA ?_
   refine zB fun al K=>zA<| zH (i6 d)<| zI (i6 d)<| RN K<| zB fun am L=>zA<| zH (.func (.func 43) #[] #[fA h])<| zH v1<| zH (i6 d) ?_
   obtain ⟨j,m,c⟩:=zD c
   obtain ⟨M,N,an,ao,P,Q,R,T,U⟩:=fQ (H.item (i:=2) rfl) m
   obtain ⟨n,rfl,V⟩:=fZ Q
   have H:=H.fzs [.at M (N+d.toNat * 4) _,.sl gY n j.Series.Samples] ⟨⟨R,T,U⟩,V,trivial⟩
   refine zF (xG u22 bQ P rfl (zZ m).1 (zZ m).2.1 rfl rfl)<| zF (yK (yH (cs:=[sb j.Name,i6 j.Series.Den,n,i6 j.Long]) mP rfl bQ rfl (H.item (i:=3) rfl).2.2) rfl) ?_
   obtain ⟨X,Y,c⟩:=zD c
   refine zO rfl rfl (bY en43 rfl rfl) (Fcdw j p1c0 n h f _ Y _ _ _ (H.enter [0] [4,1])) ?_
   rintro _ ap ⟨rfl,Z⟩
   have H:Hd _ _ _ _ [_,_,_,_,_]:=H.back [0] [4,1] rfl Z
   refine ⟨_,rfl,?_⟩
   refine RN L<| yB (b:=X) rfl (fun o=>?_) (fun o=>?_)
   ·have c:=zT o c
    refine zB fun aq aa=>zA<| zH (i6 d)<| zI (i6 d)<| RN aa ?_
    obtain rfl:=gI c
    refine (zW (yJ (zV (zV (yJ (zV (gZ (v1:=i6 d) rfl rfl ?_)))))))
    exact ⟨rfl,H.pick [4]⟩
   have c:=zU o c
   refine (zS (yV (zG (J _ _ ?_))))
   refine zA ?_
   obtain ⟨q,ab,c⟩:=zC c
   refine zF (xN (a:=d) (b:=1) rfl rfl ab)<| zH (i6 q) ?_
   exact (zQ (zG (meet ⟨(D,q),(zJ rfl zK),⟨H.pick [4,0,1],c⟩,Nat.lt_succ_self _⟩)))
  have c:=zU l c
  exact (xH (yI (yI (yU (zG (meet ⟨(),zK,⟨H.pick [0,1],c⟩⟩))))))
 rintro _ ρ ar ⟨H,c⟩
 have c:=xR v c
 refine zB fun au ac=>zA<| zI (i6 (-1))<| RN ac ?_
 obtain rfl:=gI c
 refine (zW (gZ (v1:=i6 (-1)) rfl rfl ?_))
 exact ⟨rfl,H.pick [0]⟩
theorem Fbpw (g:List gW)(p1c0:gW)(v1:Value)(d:Nat)(f:Value)(r:Bool)(c:Fbp g p1c0=some r)(O S:List Nat)(w:World)(H:Hd O w w S [.blk d [sb p1c0.Name,i6 p1c0.Series.Den,f,i6 p1c0.Long] 41,f1 fH v1 g,f1 gY f p1c0.Series.Samples]):
  Cl 42 [v1,.func (.func 43) #[] #[fA d]] w fun e i=>e= .returned (.bool r)∧Hd O w i S [.blk d [sb p1c0.Name,i6 p1c0.Series.Den,f,i6 p1c0.Long] 41]:=by
 unfold Fbp at c
 refine CW 9 Tryz.func42 ?_
 refine zB fun p j=>zA<| zI (.bool false)<| RN j<| zB fun q k=>zA<| zH v1<| zH (.func (.func 43) #[] #[fA d]) ?_
 obtain ⟨l,m,c⟩:=zD c
 refine zO rfl rfl (zM en46 rfl) (Fbjw g p1c0 v1 d f _ m _ _ _ (H.enter [0] [1,2])) ?_
 rintro _ s ⟨rfl,n⟩
 have H:Hd _ _ _ _ [_,_,_]:=H.back [0] [1,2] rfl n
 refine ⟨_,rfl,?_⟩
 obtain ⟨h,o,c⟩:=zC c
 refine zF (zL (bK (a:=l) (b:=0) rfl rfl) o)<| zI (.bool h)<| RN k ?_
 obtain rfl:=gI c
 refine (zW (gZ (v1:= .bool h) rfl rfl ?_))
 exact ⟨rfl,H.pick [2]⟩
theorem Fahw (d:Int)(f:Int)(h:Int)(r:Bool)(c:Fah d f h=some r)(O S:List Nat)(w:World)(H:Hd O w w S []):
  Cl 95 [i6 d,i6 f,i6 h] w fun e l=>e= .returned (.bool r)∧Hd O w l S []:=by
 unfold Fah at c
 refine CW 15 Tryz.func95 ?_
 refine zB fun s m=>zA<| zI (.bool false)<| RN m ?_
 obtain ⟨j,c,n⟩:=zD c
 refine yL [6,7,8,9,10,11,12,13,14] (fun (g:Unit)=>[(6,.bool j)]) (fun g wl=>Hd O w wl S []) ?_ ?_
 ·skip
  refine zA ?_
  refine zH (i6 d)<| zH (i6 f) ?_
  obtain ⟨o,p,c⟩:=zC c
  refine zF (zL (bK (a:=d) (b:=f) rfl rfl) p)<| yR (b:=o) rfl rfl rfl (fun i=>?_) (fun i=>?_)
  ·have c:=zT i c
   refine zH (i6 d)<| zH (i6 h) ?_
   obtain ⟨k,q,c⟩:=zC c
   refine zF (zL (aB (a:=d) (b:=h) rfl rfl) q)<| zF (yD (v:= .bool k) rfl rfl)<| zI (.bool k) ?_
   obtain rfl:=gI c
   exact (zQ (zG (meet ⟨(),(zJ rfl zK),H.pick []⟩)))
  have c:=zU i c
  refine yC ?_
  refine yC ?_
  refine yC ?_
  refine zF (zY (v:= .bool false) rfl rfl)<| zI (.bool false) ?_
  obtain rfl:=gI c
  exact (zQ (zG (meet ⟨(),(zJ rfl zK),H.pick []⟩)))
 rintro _ ρ t H
 have c:=n
 obtain rfl:=gI c
 refine (zW (gZ (v1:= .bool j) rfl rfl ?_))
 exact ⟨rfl,H.pick []⟩
set_option maxRecDepth 100000 in
theorem Fbsw (h:Series)(v1:Value)(r:Int×Int)(c:Fbs h=some r)(O S:List Nat)(w:World)(H:Hd O w w S [f1 gY v1 h.Samples]):
  Cl 69 [.agg [i6 h.Den,v1].toArray] w fun e B=>e= .returned (.tuple #[i6 r.1,i6 r.2])∧Hd O w B S []:=by
 unfold Fbs at c
 refine CW 67 Tryz.func69 ?_
 refine zB fun K3 R=>zA<| yQ rfl rfl (xQ (cs:=[i6 h.Den,v1]) rfl H) ?_
 rintro _ w6 ⟨j,rfl,H⟩
 refine zI (i6 0)<| zI (i6 0)<| RN R<| zB fun ci T=>zB fun cj U=>zA<| zF (nC rfl)<| Ld fK H 1 0 rfl rfl ?_
 have V:=H
 obtain ⟨X,Y,c⟩:=zD c
 refine zO rfl rfl (zM en95 rfl) (Fahw h.Den 1 1000000 _ Y _ _ _ (H.enter [] [])) ?_
 rintro _ ck ⟨rfl,Z⟩
 have H:=V.step (Z.only:Only [] _ _)
 refine ⟨_,rfl,?_⟩
 obtain ⟨aa,ab,c⟩:=zC c
 refine zF (zL (xX (p:=X) rfl) ab)<| RN U<| yB (b:=aa) rfl (fun k=>?_) (fun k=>?_)
 ·have c:=zT k c
  refine zB fun cl ac=>zA<| zI (i6 (-1))<| zI (i6 9)<| RN ac ?_
  obtain rfl:=gI c
  refine (zW (zV (cZ (v1:=i6 (-1)) (v2:=i6 9) rfl rfl rfl ?_)))
  exact ⟨rfl,H.pick []⟩
 have c:=zU k c
 refine zS (zG (T _ _ ?_))
 refine zB fun cm ad=>?_
 refine zB fun cn ae=>zA<| zF (aA rfl)<| Ld kS H 1 1 rfl rfl ?_
 obtain ⟨af,ag,c⟩:=zC c
 obtain ⟨co,cp,ah⟩:=SlF.len ((H.item (i:=0) rfl))
 refine zF (yK (xI u37 ah) (congrArg (Value.int .i64) ag)) ?_
 obtain ⟨ai,aj,c⟩:=zC c
 refine zF (zL (eQ (a:=af) (b:=20000) rfl rfl) aj)<| RN ae<| yB (b:=ai) rfl (fun l=>?_) (fun l=>?_)
 ·have c:=zT l c
  refine zB fun cq ak=>zA<| zI (i6 (-1))<| zI (i6 3)<| RN ak ?_
  obtain rfl:=gI c
  refine (zW (zV (cZ (v1:=i6 (-1)) (v2:=i6 3) rfl rfl rfl ?_)))
  exact ⟨rfl,H.pick []⟩
 have c:=zU l c
 refine zS (zG (ad _ _ ?_))
 obtain ⟨al,am,c⟩:=xM c
 refine yL [2,3,4,5,14,15,16,17,18,19,20,21,22,23,24,25,26,27,28,29,30,31,32,33,34,35,36,37,38,39,40,41,42,43,44,45,46,47,48,49,50,51,52,53,54,55,56,57,58,59,60,61,62,63,64,65,66] (fun (g:Unit)=>[]) (fun g wl=>Hd O w wl S []∧al ()=some r) ?_ ?_
 ·skip
  refine zB fun cr an=>zA<| zF (aA rfl)<| Ld kS H 1 1 rfl rfl ?_
  obtain ⟨ao,ap,c⟩:=zC c
  obtain ⟨ct,cu,aq⟩:=SlF.len ((H.item (i:=0) rfl))
  refine zF (yK (xI u37 aq) (congrArg (Value.int .i64) ap))<| zH (i6 0)<| RN an<| yA ?_
  unfold Fcn at c
  obtain ⟨ar,C,au,c⟩:=yM c
  refine xA [2,3,4,5,17,18,19,20,21,22,23,24,25,26,27,28,29,30,31,32,33,34,35,36,37,38,39,40,41,42,43,44,45,46,47,48,49,50,51,52,53,54,55,56,57,58,59,60,61,62,63,64,65,66] (fun (g:Nat×Int)=>[(17,i6 g.2)]) (fun g wl=>Hd O w wl S [f1 gY v1 h.Samples,.blk j [i6 h.Den,v1] 39]∧fJ ar g.1 g.2=some r) (fun g=>g.1) (C,0) (zJ rfl zK) ⟨H.pick [0,1],c⟩ ?_
  clear H c
  rintro ⟨C,f⟩ ρ cv ⟨H,c⟩
  obtain ⟨av,rfl,c⟩:=yS c
  have c:=yT au c
  refine zB fun cw aw=>zA ?_
  obtain ⟨ax,ay,c⟩:=zC c
  refine zF (zL (xC (a:=f) (b:=ao) rfl rfl) ay)<| RN aw<| zB fun cx az=>yB (b:=ax) rfl (fun m=>?_) (fun m=>?_)
  ·have c:=zT m c
   refine zS (zG (az _ _ ?_))
   refine zB fun cy a0=>?_
   refine yA ?_
   refine zB fun cz a1=>zA<| zH (i6 f) ?_
   obtain ⟨d,n,c⟩:=zD c
   obtain ⟨D,E,c0,c1,a2,a3,a4,a5,a6⟩:=fQ (H.item (i:=0) rfl) n
   obtain rfl:=eG a3
   have H:=H.fz (.at D (E+f.toNat * 3) _) ⟨a4,a5,a6⟩
   refine zF (xG u37 bF a2 rfl (zZ n).1 (zZ n).2.1 rfl rfl)<| zF (yK (yH (cs:=[i6 d.At,i6 d.N,i6 d.Mark]) kW rfl bF rfl (H.item (i:=2) rfl).2.2) rfl)<| yQ rfl rfl (xB nG H) ?_
   rintro _ c2 ⟨o,rfl,H⟩
   refine zI (i6 f)<| yZ rfl (yN (vs:=[i6 d.At,i6 d.N,i6 d.Mark]) H 3 rfl bF rfl rfl rfl ⟨rfl,rfl,rfl,trivial⟩ rfl) ?_
   rintro c3 H
   refine RN a1<| yA ?_
   obtain ⟨F,c,a7⟩:=zD c
   refine yL [22,23,24,25,26,27,28,29,30,31,32,33,34,35,36,37,38] (fun (g:Unit)=>[(22,.bool F)]) (fun g wl=>Hd O w wl S [f1 gY v1 h.Samples,.blk j [i6 h.Den,v1] 39,.blk o [i6 d.At,i6 d.N,i6 d.Mark] 46]) ?_ ?_
   ·skip
    refine zA ?_
    refine zF (jB rfl)<| Ld fK H 3 0 rfl rfl ?_
    have a8:=H
    obtain ⟨a9,ba,c⟩:=zD c
    refine zO rfl rfl (zM en95 rfl) (Fahw d.At 0 1099511627776 _ ba _ _ _ (H.enter [] [])) ?_
    rintro _ c4 ⟨rfl,bb⟩
    have H:=a8.step (bb.only:Only [] _ _)
    refine ⟨_,rfl,?_⟩
    obtain ⟨bc,bd,c⟩:=zC c
    refine zF (zL (xX (p:=a9) rfl) bd) ?_
    obtain ⟨G,c,be⟩:=zD c
    refine eF 6 [27,28,29,30,31,32] [(32,.bool G)] (fun wl=>Hd O w wl S [f1 gY v1 h.Samples,.blk j [i6 h.Den,v1] 39,.fz (.at D (E+f.toNat * 3) [i6 d.At,i6 d.N,i6 d.Mark]),.blk o [i6 d.At,i6 d.N,i6 d.Mark] 46]) ?_ ?_
    ·skip
     refine yR (b:=bc) rfl rfl rfl (fun q=>?_) (fun q=>?_)
     ·have c:=zT q c
      refine yC ?_
      refine yC ?_
      refine yC ?_
      refine yC ?_
      refine zF (yD (v:= .bool true) rfl rfl) ?_
      obtain rfl:=gI c
      exact zQ (zG (meet ⟨(zJ rfl zK),H.pick [0,1,2,3]⟩))
     have c:=zU q c
     refine zF (qA rfl)<| Ld fK H 3 1 rfl rfl ?_
     have bf:=H
     obtain ⟨bg,bh,c⟩:=zD c
     refine zO rfl rfl (zM en95 rfl) (Fahw d.N (-1125899906842624) 1125899906842624 _ bh _ _ _ (H.enter [] [])) ?_
     rintro _ c5 ⟨rfl,bi⟩
     have H:=bf.step (bi.only:Only [] _ _)
     refine ⟨_,rfl,?_⟩
     obtain ⟨bj,bk,c⟩:=zC c
     refine zF (zL (xX (p:=bg) rfl) bk)<| zF (zY (v:= .bool bj) rfl rfl) ?_
     obtain rfl:=gI c
     exact zQ (zG (meet ⟨(zJ rfl zK),H.pick [0,1,2,3]⟩))
    rintro ρ c6 H
    have c:=be
    refine yR (b:=G) rfl rfl rfl (fun s=>?_) (fun s=>?_)
    ·have c:=zT s c
     refine yC ?_
     refine yC ?_
     refine yC ?_
     refine yC ?_
     refine zF (yD (v:= .bool true) rfl rfl)<| zI (.bool true) ?_
     obtain rfl:=gI c
     exact (zQ (zG (meet ⟨(),(zJ rfl zK),H.pick [0,1,3]⟩)))
    have c:=zU s c
    refine zF (rX rfl)<| Ld fK H 3 2 rfl rfl ?_
    have bl:=H
    obtain ⟨bm,bn,c⟩:=zD c
    refine zO rfl rfl (zM en95 rfl) (Fahw d.Mark 0 4 _ bn _ _ _ (H.enter [] [])) ?_
    rintro _ c7 ⟨rfl,bo⟩
    have H:=bl.step (bo.only:Only [] _ _)
    refine ⟨_,rfl,?_⟩
    obtain ⟨I,bp,c⟩:=zC c
    refine zF (zL (xX (p:=bm) rfl) bp)<| zF (zY (v:= .bool I) rfl rfl)<| zI (.bool I) ?_
    obtain rfl:=gI c
    exact (zQ (zG (meet ⟨(),(zJ rfl zK),H.pick [0,1,3]⟩)))
   rintro _ ρ c8 H
   have c:=a7
   refine yB (b:=F) rfl (fun t=>?_) (fun t=>?_)
   ·have c:=zT t c
    refine zB fun c9 bq=>zA<| zH (i6 f)<| zI (i6 f)<| zI (i6 9)<| RN bq ?_
    obtain rfl:=gI c
    refine (zW (yJ (yJ (zV (zV (yJ (zV (cZ (v1:=i6 f) (v2:=i6 9) rfl rfl rfl ?_))))))))
    exact ⟨rfl,H.pick []⟩
   have c:=zU t c
   obtain ⟨J,c,br⟩:=zD c
   refine yL [40,41,42,43,44,45,46,47,48] (fun (g:Unit)=>[(40,.bool J)]) (fun g wl=>Hd O w wl S [f1 gY v1 h.Samples,.blk j [i6 h.Den,v1] 39,.blk o [i6 d.At,i6 d.N,i6 d.Mark] 46]) ?_ ?_
   ·skip
    refine zA ?_
    refine zF (qA rfl)<| Ld fK H 2 1 rfl rfl ?_
    obtain ⟨bt,bu,c⟩:=zC c
    refine zF (zL (dJ (a:=d.N) (b:=0) rfl rfl) bu)<| yR (b:=bt) rfl rfl rfl (fun u=>?_) (fun u=>?_)
    ·have c:=zT u c
     refine zF (rX rfl)<| Ld fK H 2 2 rfl rfl ?_
     obtain ⟨K,bv,c⟩:=zC c
     refine zF (zL (aB (a:=d.Mark) (b:=1) rfl rfl) bv)<| zF (yD (v:= .bool K) rfl rfl)<| zI (.bool K) ?_
     obtain rfl:=gI c
     exact (zQ (zG (meet ⟨(),(zJ rfl zK),H.pick [0,1,2]⟩)))
    have c:=zU u c
    refine yC ?_
    refine yC ?_
    refine yC ?_
    refine zF (zY (v:= .bool false) rfl rfl)<| zI (.bool false) ?_
    obtain rfl:=gI c
    exact (zQ (zG (meet ⟨(),(zJ rfl zK),H.pick [0,1,2]⟩)))
   rintro _ ρ da H
   have c:=br
   refine yB (b:=J) rfl (fun x=>?_) (fun x=>?_)
   ·have c:=zT x c
    refine zB fun db bw=>zA<| zH (i6 f)<| zI (i6 f)<| zI (i6 2)<| RN bw ?_
    obtain rfl:=gI c
    refine (zW (yJ (yJ (zV (zV (yJ (zV (cZ (v1:=i6 f) (v2:=i6 2) rfl rfl rfl ?_))))))))
    exact ⟨rfl,H.pick []⟩
   have c:=zU x c
   obtain ⟨L,c,bx⟩:=zD c
   refine yL [50,51,52,53,54,55,56,57,58,59,60,61,62,63,64] (fun (g:Unit)=>[(50,.bool L)]) (fun g wl=>Hd O w wl S [f1 gY v1 h.Samples,.blk j [i6 h.Den,v1] 39]) ?_ ?_
   ·skip
    have M:=H
    have H:=H.rebase
    have dc:=H
    refine WP_mix0 H [0,1,2,3,4,5,6,7,8,9,10,11,12,13,14] (kz [0,0,0,0,1,0,1,0,0,0,0,1,0,0,0]) mixed ?_
    refine XM (i6 f) ?_
    obtain ⟨bz,b0,c⟩:=zC c
    refine XP (fun _ _=>zL (eQ (a:=f) (b:=0) rfl rfl) b0)<| MxM.XL_splitb (b:=bz) rfl rfl rfl rfl (fun y=>?_) (fun y=>?_)
    ·have c:=zT y c
     refine XP (fun _ _=>jB rfl)<| XR fK H 2 0 rfl rfl<| XP (fun _ _=>aA rfl)<| XR kS H 1 1 rfl rfl<| XM (i6 f) ?_
     obtain ⟨b1,b2,c⟩:=zC c
     refine XP (fun _ _=>bI (a:=f) (b:=1) rfl rfl b2) ?_
     obtain ⟨b3,z,c⟩:=zD c
     obtain ⟨b4,b5,dd,de,b6,b7,b8,b9,ca⟩:=fQ (H.item (i:=0) rfl) z
     obtain rfl:=eG b7
     have H:=H.fz (.at b4 (b5+b1.toNat * 3) _) ⟨b8,b9,ca⟩
     refine XP (fun _ _=>xG u37 bF b6 rfl (zZ z).1 (zZ z).2.1 rfl rfl)<| XP (fun _ _=>jB rfl)<| MxM.XL_read oS rfl rfl rfl (fun B cb=>xO fK rfl (Cells.get ((H.sees cb).item (i:=3) rfl).2.2 (i:=0) rfl)) ?_
     obtain ⟨P,cc,c⟩:=zC c
     refine XP (fun _ _=>zL (aB (a:=d.At) (b:=b3.At) rfl rfl) cc)<| XP (fun _ _=>yD (v:= .bool P) rfl rfl)<| XP (fun _ _=>dQ (v:= .bool P) rfl)<| MxM.XL_nil fun df hS=>?_
     have H:=H.sees hS
     have H:=M.rejoin H
     obtain rfl:=gI c
     exact (zG (meet ⟨(),(zJ rfl zK),H.pick [0,1]⟩))
    have c:=zU y c
    refine XO<| MxM.XL_offr oS rfl rfl rfl ?_
    refine XO<| MxM.XL_offr oS rfl rfl rfl ?_
    refine XO<| XO<| XO<| XO<| MxM.XL_offr oS rfl rfl rfl ?_
    refine XO<| XP (fun _ _=>zY (v:= .bool false) rfl rfl)<| XP (fun _ _=>dQ (v:= .bool false) rfl)<| MxM.XL_nil fun dg hS=>?_
    have H:=H.sees hS
    have H:=M.rejoin H
    obtain rfl:=gI c
    exact (zG (meet ⟨(),(zJ rfl zK),H.pick [0,1]⟩))
   rintro _ ρ dh H
   have c:=bx
   refine yB (b:=L) rfl (fun A=>?_) (fun A=>?_)
   ·have c:=zT A c
    refine zB fun di cd=>zA<| zH (i6 f)<| zI (i6 f)<| zI (i6 10)<| RN cd ?_
    obtain rfl:=gI c
    refine (zW (yJ (yJ (zV (zV (yJ (zV (cZ (v1:=i6 f) (v2:=i6 10) rfl rfl rfl ?_))))))))
    exact ⟨rfl,H.pick []⟩
   have c:=zU A c
   refine (zS (yV (yV (zG (a0 _ _ ?_)))))
   refine zA ?_
   obtain ⟨Q,ce,c⟩:=zC c
   refine zF (xN (a:=f) (b:=1) rfl rfl ce)<| zH (i6 Q) ?_
   exact (zQ (zG (meet ⟨(av,Q),(zJ rfl zK),⟨H.pick [0,1],c⟩,Nat.lt_succ_self _⟩)))
  have c:=zU m c
  exact (xH (yI (yI (yU (zG (meet ⟨(),zK,⟨H.pick [],c⟩⟩))))))
 rintro _ ρ dj ⟨H,c⟩
 have c:=xR am c
 refine zB fun dk cf=>zA<| zI (i6 (-1))<| zI (i6 0)<| RN cf ?_
 obtain rfl:=gI c
 refine (zW (cZ (v1:=i6 (-1)) (v2:=i6 0) rfl rfl rfl ?_))
 exact ⟨rfl,H.pick []⟩
theorem Fbnw (a:Series)(v1:Value)(r:Int)(c:Fbn a=some r)(O S:List Nat)(w:World)(H:Hd O w w S [f1 gY v1 a.Samples]):
  Cl 44 [.agg [i6 a.Den,v1].toArray] w fun e f=>e= .returned (i6 r)∧Hd O w f S []:=by
 unfold Fbn at c
 refine CW 11 Tryz.func44 ?_
 refine zB fun m g=>zA<| yQ rfl rfl (xQ (cs:=[i6 a.Den,v1]) rfl H) ?_
 rintro _ n ⟨o,rfl,H⟩
 refine zI (i6 0)<| RN g<| zB fun p h=>zA<| zF (yK (yH (cs:=[i6 a.Den,v1]) qB rfl wZ rfl (Hbc H 1 rfl)) rfl) ?_
 have i:=H
 obtain ⟨⟨d,b⟩,j,c⟩:=zD c
 refine zO rfl rfl (zM en69 rfl) (Fbsw a v1 _ j _ _ _ (H.enter [] [0])) ?_
 rintro _ q ⟨rfl,k⟩
 have H:=i.step (k.only:Only [] _ _)
 refine ⟨_,rfl,?_⟩
 refine zH (.tuple #[i6 d,i6 b])<| zF (yP (v:=i6 d) rfl rfl)<| zF (yP (v:=i6 b) rfl rfl)<| zI (i6 d)<| zI (i6 b)<| RN h<| zB fun s l=>zA<| zH (i6 b)<| zI (i6 b)<| RN l ?_
 obtain rfl:=gI c
 refine (zW (gZ (v1:=i6 b) rfl rfl ?_))
 exact ⟨rfl,H.pick []⟩
set_option maxRecDepth 100000 in
theorem Fbkw (k:List gW)(v1:Value)(r:Int)(c:Fbk k=some r)(O S:List Nat)(w:World)(H:Hd O w w S [f1 fH v1 k]):
  Cl 17 [v1] w fun e z=>e= .returned (i6 r)∧Hd O w z S []:=by
 unfold Fbk at c
 refine CW 36 Tryz.func17 ?_
 refine zB fun K3 A=>zA<| zI (i6 0)<| RN A<| zB fun bo B=>zB fun bp C=>zA<| zH v1 ?_
 obtain ⟨D,E,c⟩:=zC c
 obtain ⟨bq,br,F⟩:=SlF.len ((H.item (i:=0) rfl))
 refine zF (yK (xI u22 F) (congrArg (Value.int .i64) E)) ?_
 obtain ⟨G,I,c⟩:=zC c
 refine zF (zL (eQ (a:=D) (b:=50) rfl rfl) I)<| RN C<| yB (b:=G) rfl (fun l=>?_) (fun l=>?_)
 ·have c:=zT l c
  refine zB fun bt J=>zA<| zI (i6 3)<| RN J ?_
  obtain rfl:=gI c
  refine (zW (zV (gZ (v1:=i6 3) rfl rfl ?_)))
  exact ⟨rfl,H.pick []⟩
 have c:=zU l c
 refine zS (zG (B _ _ ?_))
 obtain ⟨K,L,c⟩:=xM c
 refine yL [2,3,4,5,9,10,11,12,13,14,15,16,17,18,19,20,21,22,23,24,25,26,27,28,29,30,31,32,33,34,35] (fun (g:Unit)=>[]) (fun g wl=>Hd O w wl S []∧K ()=some r) ?_ ?_
 ·skip
  refine zB fun bu M=>zA<| zH v1 ?_
  obtain ⟨N,P,c⟩:=zC c
  obtain ⟨bv,bw,Q⟩:=SlF.len ((H.item (i:=0) rfl))
  refine zF (yK (xI u22 Q) (congrArg (Value.int .i64) P))<| zH (i6 0)<| RN M<| yA ?_
  unfold Fdw at c
  obtain ⟨R,u,T,c⟩:=yM c
  refine xA [2,3,4,5,11,12,13,14,15,16,17,18,19,20,21,22,23,24,25,26,27,28,29,30,31,32,33,34,35] (fun (g:Nat×Int)=>[(11,i6 g.2)]) (fun g wl=>Hd O w wl S [f1 fH v1 k]∧fJ R g.1 g.2=some r) (fun g=>g.1) (u,0) (zJ rfl zK) ⟨H.pick [0],c⟩ ?_
  clear H c
  rintro ⟨u,f⟩ ρ bx ⟨H,c⟩
  obtain ⟨U,rfl,c⟩:=yS c
  have c:=yT T c
  refine zB fun bz V=>zA ?_
  obtain ⟨X,Y,c⟩:=zC c
  refine zF (zL (xC (a:=f) (b:=N) rfl rfl) Y)<| RN V<| zB fun b0 Z=>yB (b:=X) rfl (fun m=>?_) (fun m=>?_)
  ·have c:=zT m c
   refine zS (zG (Z _ _ ?_))
   refine zB fun b1 aa=>?_
   refine yA ?_
   refine zB fun b2 ab=>zA<| zH (i6 f) ?_
   obtain ⟨d,n,c⟩:=zD c
   obtain ⟨ac,ad,b3,b4,ae,af,ag,ah,ai⟩:=fQ (H.item (i:=0) rfl) n
   obtain ⟨h,rfl,aj⟩:=fZ af
   have H:=H.fzs [.at ac (ad+f.toNat * 4) _,.sl gY h d.Series.Samples] ⟨⟨ag,ah,ai⟩,aj,trivial⟩
   refine zF (xG u22 bQ ae rfl (zZ n).1 (zZ n).2.1 rfl rfl)<| zF (yK (yH (cs:=[sb d.Name,i6 d.Series.Den,h,i6 d.Long]) mP rfl bQ rfl (H.item (i:=1) rfl).2.2) rfl)<| yQ rfl rfl (xB rW H) ?_
   rintro _ b5 ⟨ak,rfl,H⟩
   refine zI (i6 f)<| yZ rfl (yN (vs:=[sb d.Name,i6 d.Series.Den,h,i6 d.Long]) H 3 rfl bQ rfl rfl rfl ⟨rfl,rfl,(dK (H.item (i:=2) rfl)),rfl,trivial⟩ rfl) ?_
   rintro b6 H
   refine RN ab<| zB fun b7 al=>zB fun b8 am=>zA<| zF (mV rfl)<| Ld dW H 3 0 rfl rfl ?_
   have an:=H
   obtain ⟨ao,ap,c⟩:=zD c
   refine zO rfl rfl (zM en41 rfl) (Fagw d.Name _ ap _ _ _ (H.enter [] [])) ?_
   rintro _ b9 ⟨rfl,aq⟩
   have H:=an.step (aq.only:Only [] _ _)
   refine ⟨_,rfl,?_⟩
   obtain ⟨ar,au,c⟩:=zC c
   refine zF (zL (xX (p:=ao) rfl) au)<| RN am<| yB (b:=ar) rfl (fun o=>?_) (fun o=>?_)
   ·have c:=zT o c
    refine zB fun ca av=>zA<| zI (i6 8)<| RN av ?_
    obtain rfl:=gI c
    refine (zW (zV (yJ (zV (zV (yJ (zV (gZ (v1:=i6 8) rfl rfl ?_))))))))
    exact ⟨rfl,H.pick []⟩
   have c:=zU o c
   refine zS (zG (al _ _ ?_))
   refine zB fun cb aw=>?_
   refine zB fun cc ax=>zA<| zH v1<| zH (i6 f) ?_
   obtain ⟨v,ay,c⟩:=zD c
   refine aDo rfl rfl (pG u22 bQ (H.item (i:=0) rfl) rfl rfl ay) ?_
   rintro x az
   have H:=H.fz (.sl fH x v) az
   refine zF (dC rfl) ?_
   obtain ⟨a0,a1,c⟩:=zD c
   refine zO rfl rfl (zM en42 rfl) (Fbpw v d x ak h _ a1 _ _ _ (H.enter [3] [4,2])) ?_
   rintro _ cd ⟨rfl,a2⟩
   have H:Hd _ _ _ _ [_,_,_,_,_]:=H.back [3] [4,2] rfl a2
   refine ⟨_,rfl,?_⟩
   refine RN ax<| yB (b:=a0) rfl (fun q=>?_) (fun q=>?_)
   ·have c:=zT q c
    refine zB fun ce a3=>zA<| zI (i6 5)<| RN a3 ?_
    obtain rfl:=gI c
    refine (zW (zV (yJ (zV (zV (yJ (zV (gZ (v1:=i6 5) rfl rfl ?_))))))))
    exact ⟨rfl,H.pick []⟩
   have c:=zU q c
   refine zS (zG (aw _ _ ?_))
   refine zB fun cf a4=>?_
   refine zB fun cg a5=>zA<| zF (kV rfl)<| zF (yK (yH (cs:=[i6 d.Series.Den,h]) qB rfl wZ rfl (Cells.drop (Hbc H 4 rfl) 1 2)) rfl) ?_
   have a6:=H
   obtain ⟨j,a7,c⟩:=zD c
   refine zO rfl rfl (zM en44 rfl) (Fbnw d.Series h _ a7 _ _ _ (H.enter [] [2])) ?_
   rintro _ ch ⟨rfl,a8⟩
   have H:=a6.step (a8.only:Only [] _ _)
   refine ⟨_,rfl,?_⟩
   refine zI (i6 j)<| RN a5<| zB fun ci a9=>zA<| zH (i6 j) ?_
   obtain ⟨ba,bb,c⟩:=zC c
   refine zF (zL (dJ (a:=j) (b:=0) rfl rfl) bb)<| RN a9<| yB (b:=ba) rfl (fun s=>?_) (fun s=>?_)
   ·have c:=zT s c
    refine zB fun cj bc=>zA<| zH (i6 j)<| zI (i6 j)<| RN bc ?_
    obtain rfl:=gI c
    refine (zW (zV (yJ (zV (zV (yJ (zV (gZ (v1:=i6 j) rfl rfl ?_))))))))
    exact ⟨rfl,H.pick []⟩
   have c:=zU s c
   refine zS (zG (a4 _ _ ?_))
   refine zB fun ck bd=>zA<| zF (vF rfl)<| Ld fK H 4 3 rfl rfl ?_
   have be:=H
   obtain ⟨bf,bg,c⟩:=zD c
   refine zO rfl rfl (zM en45 rfl) (Faew d.Long 0 1099511627776 _ bg _ _ _ (H.enter [] [])) ?_
   rintro _ cl ⟨rfl,bh⟩
   have H:=be.step (bh.only:Only [] _ _)
   refine ⟨_,rfl,?_⟩
   obtain ⟨bi,bj,c⟩:=zC c
   refine zF (zL (xX (p:=bf) rfl) bj)<| RN bd<| yB (b:=bi) rfl (fun t=>?_) (fun t=>?_)
   ·have c:=zT t c
    refine zB fun cm bk=>zA<| zI (i6 9)<| RN bk ?_
    obtain rfl:=gI c
    refine (zW (yJ (zV (zV (yJ (zV (gZ (v1:=i6 9) rfl rfl ?_)))))))
    exact ⟨rfl,H.pick []⟩
   have c:=zU t c
   refine (zS (yV (zG (aa _ _ ?_))))
   refine zA ?_
   obtain ⟨y,bl,c⟩:=zC c
   refine zF (xN (a:=f) (b:=1) rfl rfl bl)<| zH (i6 y) ?_
   exact (zQ (zG (meet ⟨(U,y),(zJ rfl zK),⟨H.pick [0],c⟩,Nat.lt_succ_self _⟩)))
  have c:=zU m c
  exact (xH (yI (yI (yU (zG (meet ⟨(),zK,⟨H.pick [],c⟩⟩))))))
 rintro _ ρ cn ⟨H,c⟩
 have c:=xR L c
 refine zB fun co bm=>zA<| zI (i6 0)<| RN bm ?_
 obtain rfl:=gI c
 refine (zW (gZ (v1:=i6 0) rfl rfl ?_))
 exact ⟨rfl,H.pick []⟩
theorem Fcmw (a:gW)(b:Str)(v1:Value)(d:Nat)(r:Bool)(c:Fcm a b=some r)(O S:List Nat)(w:World)(H:Hd O w w S [.blk d [sb b] 9,f1 gY v1 a.Series.Samples]):
  Cl 47 [.agg [sb a.Name,i6 a.Series.Den,v1,i6 a.Long].toArray,fA d] w fun e g=>e= .returned (.bool r)∧Hd O w g S [.blk d [sb b] 9]:=by
 unfold Fcm at c
 refine CW 8 Tryz.func47 ?_
 refine zB fun k h=>zA<| yQ rfl rfl (xQ (cs:=[sb a.Name,i6 a.Series.Den,v1,i6 a.Long]) rfl H) ?_
 rintro _ l ⟨m,rfl,H⟩
 refine zI (.bool false)<| RN h<| zB fun n i=>zA<| zF (mV rfl)<| Ld dW H 2 0 rfl rfl<| Ld dW H 0 0 rfl rfl ?_
 obtain ⟨f,j,c⟩:=zC c
 refine zF (zL (fU (s1:=a.Name) (s2:=b) rfl rfl) j)<| zI (.bool f)<| RN i ?_
 obtain rfl:=gI c
 refine (zW (gZ (v1:= .bool f) rfl rfl ?_))
 exact ⟨rfl,H.pick [0]⟩
end Go.Proofs.YtgmikmoapfmedaaGreatDoor.L
