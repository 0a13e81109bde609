/- Walks: what each function computes, for every argument; no condition but those that stand in the statements. -/
import Derived.Test.YtgmikmoapfmedaaGreatDoorRows
import Derived.Test.YtgmikmoapfmedaaGreatDoorVP
import Derived.Test.YtgmikmoapfmedaaGreatDoorXVc
import Derived.Test.YtgmikmoapfmedaaGreatDoorXVs
import Derived.Test.YtgmikmoapfmedaaGreatDoorLfS
import Derived.Test.YtgmikmoapfmedaaGreatDoorXVi
namespace Go.Proofs.YtgmikmoapfmedaaGreatDoor.L
open Go.RowKit Go.OB Go.Lf
set_option maxHeartbeats 4000000
abbrev En (f:FuncId):Prop:=Go.OB.Enters Tryz.prog f
theorem RN {P:Program}{N:Nat}{ops:Array Oper}{y:Code}{K:Env→World→Prop}{Q Q':Exit→Env→World→Prop}{ρ:Env}{w:World}(h: ∀ρ w,WP P N y Q ρ w→K ρ w)(n:WP P N y Q ρ w):RL P N ops (mO K Q') [] ρ w:=zZ (zF (h _ _ n))
theorem CW {P:Program}{f:FuncId}{fn:Func}{c:Code}{args:List Value}{w:World}{R:Ending→World→Prop}(N:Nat)(hf:P.funcs[f]? =some fn)(h:WP P N c (mG P fn.results R) (vN args) w)(hb:fn.body=some c:=by exact rfl)(hN:fn.ntmps=N:=by exact rfl)(hl:Nat.ble args.length N=true:=by exact rfl):Calls P f args.toArray w R:=aCe N hf hb hN hl h
abbrev Cl (f:Nat)(a:List Value)(w:World)(R:Ending→World→Prop):Prop:=Calls Tryz.prog f a.toArray w R
abbrev i6 (n:Int):Value:= .int .i64 n
abbrev sb (s:Str):Value:= .string (bs s)
abbrev f1 {α:Type}(r:Rp α)(v:Value)(l:List α):Th:= .fz (.sl r v l)
theorem Hbc {O S:List Nat}{a w:World}{l:List Th}{b:Nat}{T:TypeId}{cs:List Value}(H:Hd O a w S l)(i:Nat)(h:l[i]? =some (.blk b cs T)):Cells w ⟨b,0,none⟩ cs:=Blk.cells (H.item h)
theorem Hbg {O S:List Nat}{a w:World}{l:List Th}{b:Nat}{T:TypeId}{cs:List Value}{v:Value}(H:Hd O a w S l)(i j:Nat)(h:l[i]? =some (.blk b cs T))(c:cs[j]? =some v):w.cell? ⟨b,0+j,none⟩=some v:=Cells.get (Blk.cells (H.item h)) c
theorem XP {P:Program}{I:World→Prop}{N:Nat}{ops:Array Oper}{κ:List MxM.Kd}{K:MxM.Mm→Env→World→Prop}{k:Nat}{M:MxM.Mm}{σ:List Nat}{rest:List Oper}{ρ:Env}{w:World}{d:Nat}{ty:TypeId}{pos:String}{af:Array Edge}{g:Option (Nat×Bool)}{v:Value}{op:Op}(h: ∀a,I a→Do P ⟨some d,op,ty,pos,af,g⟩ ρ a v a)(n:MxM.XL P I N ops κ K M σ rest (upd ρ d v) w)(hk:MxM.kdOf κ k= .pure:=by exact rfl)(hw:fK N ops ρ ⟨some d,op,ty,pos,af,g⟩=true:=by exact rfl)(hd:Nat.blt d N=true:=by exact rfl):MxM.XL P I N ops κ K M (k :: σ) (⟨some d,op,ty,pos,af,g⟩ :: rest) ρ w:=MxM.XL_pure hk hw hd h n
theorem XO {P:Program}{I:World→Prop}{N:Nat}{ops:Array Oper}{κ:List MxM.Kd}{K:MxM.Mm→Env→World→Prop}{k:Nat}{M:MxM.Mm}{σ:List Nat}{rest:List Oper}{ρ:Env}{w:World}{d:Nat}{ty:TypeId}{pos:String}{af:Array Edge}{g:Option (Nat×Bool)}{op:Op}(n:MxM.XL P I N ops κ K M σ rest (upd ρ d undef) w)(hk:MxM.kdOf κ k= .pure:=by exact rfl)(hw:fK N ops ρ ⟨some d,op,ty,pos,af,g⟩=false:=by exact rfl)(hd:Nat.blt d N=true:=by exact rfl):MxM.XL P I N ops κ K M (k :: σ) (⟨some d,op,ty,pos,af,g⟩ :: rest) ρ w:=MxM.XL_offp hk hw hd n
theorem XM {P:Program}{I:World→Prop}{N:Nat}{ops:Array Oper}{κ:List MxM.Kd}{K:MxM.Mm→Env→World→Prop}{k:Nat}{M:MxM.Mm}{σ:List Nat}{rest:List Oper}{ρ:Env}{w:World}{d:Nat}{ty:TypeId}{pos:String}{af:Array Edge}{g:Option (Nat×Bool)}{x:Operand}(v:Value)(n:MxM.XL P I N ops κ K M σ rest (upd ρ d v) w)(hx:ev ρ x=v:=by exact rfl)(hk:MxM.kdOf κ k= .pure:=by exact rfl)(hw:fK N ops ρ ⟨some d,.move x,ty,pos,af,g⟩=true:=by exact rfl)(hd:Nat.blt d N=true:=by exact rfl):MxM.XL P I N ops κ K M (k :: σ) (⟨some d,.move x,ty,pos,af,g⟩ :: rest) ρ w:=MxM.XL_pure hk hw hd (fun _ _=>sG hx) n
theorem XR {P:Program}{c:World}{e:List Nat}{N:Nat}{ops:Array Oper}{κ:List MxM.Kd}{K:MxM.Mm→Env→World→Prop}{k:Nat}{M:MxM.Mm}{σ:List Nat}{rest:List Oper}{ρ:Env}{w:World}{d:Nat}{ty:TypeId}{pos:String}{af:Array Edge}{g:Option (Nat×Bool)}{t:TypeId}{x:Operand}{O S:List Nat}{f:World}{l:List Th}{b:Nat}{T:TypeId}{cs:List Value}{v:Value}(o:bG P t)(H:Hd O f w S l)(i j:Nat)(h:l[i]? =some (.blk b cs T))(m:cs[j]? =some v)(n:MxM.XL P (fun a=>Only e c a) N ops κ K M σ rest (upd ρ d v) w)(hx:ev ρ x= .pointer (some ⟨b,0+j,none⟩):=by exact rfl)(hk:MxM.kdOf κ k= .read:=by exact rfl)(hw:fK N ops ρ ⟨some d,.load t x,ty,pos,af,g⟩=true:=by exact rfl)(hd:Nat.blt d N=true:=by exact rfl):MxM.XL P (fun a=>Only e c a) N ops κ K M (k :: σ) (⟨some d,.load t x,ty,pos,af,g⟩ :: rest) ρ w:=MxM.xN oS hk hw hd (fun _ p=>yZ o hx (Hbg (H.sees p) i j h m)) n
theorem Ld {P:Program}{N:Nat}{ops:Array Oper}{Q:Exit→Env→World→Prop}{rest:List Oper}{ρ:Env}{w:World}{d:Nat}{t ty:TypeId}{x:Operand}{pos:String}{af:Array Edge}{g:Option (Nat×Bool)}{O S:List Nat}{a:World}{l:List Th}{b:Nat}{T:TypeId}{cs:List Value}{v:Value}(o:bG P t)(H:Hd O a w S l)(i j:Nat)(h:l[i]? =some (.blk b cs T))(c:cs[j]? =some v)(k:RL P N ops Q rest (upd ρ d v) w)(hx:ev ρ x= .pointer (some ⟨b,0+j,none⟩):=by exact rfl)(hw:fK N ops ρ ⟨some d,.load t x,ty,pos,af,g⟩=true:=by exact rfl)(hd:Nat.blt d N=true:=by exact rfl):RL P N ops Q (⟨some d,.load t x,ty,pos,af,g⟩ :: rest) ρ w:=zG (yZ o hx (Hbg H i j h c)) k hw hd
theorem fH {f:FuncId}{fn:Func}(h:Tryz.prog.funcs[f]? =some fn)(a:fn.body.isSome=true:=by exact rfl)(b:(fn.name== "runtime.NumGoroutine")=false:=by kernel_rfl):Go.OB.Enters Tryz.prog f:=⟨_,h,a,b⟩
theorem u3:Tryz.prog.underlying 3=some (.int .i64):=Tryz.underlying3
theorem u4:Tryz.prog.underlying 4=some .bool:=Tryz.underlying4
theorem u5:Tryz.prog.underlying 5=some (.int .u8):=Tryz.underlying5
theorem u9:Tryz.prog.underlying 9=some .string:=Tryz.underlying9
theorem u22:Tryz.prog.underlying 22=some (.slice 41):=Tryz.underlying22
theorem u36:Tryz.prog.underlying 36=some (.slice 9):=Tryz.underlying36
theorem u37:Tryz.prog.underlying 37=some (.slice 46):=Tryz.underlying37
theorem u42:Tryz.prog.underlying 42=some (.slice 3):=Tryz.underlying42
theorem u47:Tryz.prog.underlying 47=some (.slice 51):=Tryz.underlying47
theorem u72:Tryz.prog.underlying 72=some (.slice 129):=Tryz.underlying72
theorem u73:Tryz.prog.underlying 73=some (.slice 132):=Tryz.underlying73
theorem rP:Tryz.prog.underlying 125=some (.slice 127):=Tryz.underlying125
theorem u142:Tryz.prog.underlying 142=some (.int .u64):=Tryz.underlying142
theorem u156:Tryz.prog.underlying 156=some (.map 9 4):=Tryz.underlying156
theorem u201:Tryz.prog.underlying 201=some (.array 7 9):=Tryz.underlying201
theorem fo105_2:qC Tryz.prog 105 2=some (2,3):=by kernel_rfl
theorem fo105_3:qC Tryz.prog 105 3=some (3,9):=by kernel_rfl
theorem ui178:Tryz.prog.underlying 178=some (.interface (Tryz.prog.methodsAt 178)):=by kernel_rfl
theorem sz3:Sz Tryz.prog 3 1:=by unfold Sz; kernel_rfl
theorem sz4:Sz Tryz.prog 4 1:=by unfold Sz; kernel_rfl
theorem sz9:Sz Tryz.prog 9 1:=by unfold Sz; kernel_rfl
theorem sz36:Sz Tryz.prog 36 1:=by unfold Sz; kernel_rfl
theorem sz37:Sz Tryz.prog 37 1:=by unfold Sz; kernel_rfl
theorem aBo:Sz Tryz.prog 39 2:=by unfold Sz; kernel_rfl
theorem cO:Sz Tryz.prog 41 4:=by unfold Sz; kernel_rfl
theorem dV:Sz Tryz.prog 46 3:=by unfold Sz; kernel_rfl
theorem aBs:Sz Tryz.prog 51 2:=by unfold Sz; kernel_rfl
theorem sz73:Sz Tryz.prog 73 1:=by unfold Sz; kernel_rfl
theorem nP:Sz Tryz.prog 75 3:=by unfold Sz; kernel_rfl
theorem sz89:Sz Tryz.prog 89 1:=by unfold Sz; kernel_rfl
theorem vV:Sz Tryz.prog 105 4:=by unfold Sz; kernel_rfl
theorem sz109:Sz Tryz.prog 109 2:=by unfold Sz; kernel_rfl
theorem dP:Sz Tryz.prog 127 7:=by unfold Sz; kernel_rfl
theorem aU:Sz Tryz.prog 132 8:=by unfold Sz; kernel_rfl
theorem sz156:Sz Tryz.prog 156 1:=by unfold Sz; kernel_rfl
theorem sz203:Sz Tryz.prog 203 7:=by unfold Sz; kernel_rfl
theorem fJ:bG Tryz.prog 3:=by unfold bG; kernel_rfl
theorem qH:bG Tryz.prog 4:=by unfold bG; kernel_rfl
theorem dQ:bG Tryz.prog 9:=by unfold bG; kernel_rfl
theorem one29:bG Tryz.prog 29:=by unfold bG; kernel_rfl
theorem aEj:bG Tryz.prog 36:=by unfold bG; kernel_rfl
theorem bY:bG Tryz.prog 37:=by unfold bG; kernel_rfl
theorem one72:bG Tryz.prog 72:=by unfold bG; kernel_rfl
theorem mP:bG Tryz.prog 73:=by unfold bG; kernel_rfl
theorem one89:bG Tryz.prog 89:=by unfold bG; kernel_rfl
theorem qR:bG Tryz.prog 103:=by unfold bG; kernel_rfl
theorem qP:bG Tryz.prog 125:=by unfold bG; kernel_rfl
theorem one156:bG Tryz.prog 156:=by unfold bG; kernel_rfl
theorem rF:Agg Tryz.prog 39:=by unfold Agg; kernel_rfl
theorem mJ:Agg Tryz.prog 41:=by unfold Agg; kernel_rfl
theorem aZ:Agg Tryz.prog 46:=by unfold Agg; kernel_rfl
theorem agg51:Agg Tryz.prog 51:=by unfold Agg; kernel_rfl
theorem jL:Agg Tryz.prog 75:=by unfold Agg; kernel_rfl
theorem aCv:Agg Tryz.prog 105:=by unfold Agg; kernel_rfl
theorem dX:Agg Tryz.prog 127:=by unfold Agg; kernel_rfl
theorem qU:Agg Tryz.prog 132:=by unfold Agg; kernel_rfl
theorem agg203:Agg Tryz.prog 203:=by unfold Agg; kernel_rfl
theorem zero3:Go.OB.Zero Tryz.prog 3 ([i6 0]):=by unfold Go.OB.Zero; kernel_rfl
theorem zero4:Go.OB.Zero Tryz.prog 4 ([.bool false]):=by unfold Go.OB.Zero; kernel_rfl
theorem zero36:Go.OB.Zero Tryz.prog 36 ([.slice none 0 0]):=by unfold Go.OB.Zero; kernel_rfl
theorem mQ:Go.OB.Zero Tryz.prog 41 ([.string (bs []),i6 0,.slice none 0 0,i6 0]):=by unfold Go.OB.Zero; kernel_rfl
theorem jU:Go.OB.Zero Tryz.prog 46 ([i6 0,i6 0,i6 0]):=by unfold Go.OB.Zero; kernel_rfl
theorem zero51:Go.OB.Zero Tryz.prog 51 ([i6 0,.bool false]):=by unfold Go.OB.Zero; kernel_rfl
theorem aAj:Go.OB.Zero Tryz.prog 75 ([.slice none 0 0,.slice none 0 0,.slice none 0 0]):=by unfold Go.OB.Zero; kernel_rfl
theorem zero89:Go.OB.Zero Tryz.prog 89 ([.nilFunc]):=by unfold Go.OB.Zero; kernel_rfl
theorem aDn:Go.OB.Zero Tryz.prog 105 ([i6 0,i6 0,i6 0,.string (bs [])]):=by unfold Go.OB.Zero; kernel_rfl
theorem zero109:Go.OB.Zero Tryz.prog 109 ([i6 0,i6 0]):=by unfold Go.OB.Zero; kernel_rfl
theorem kV:Go.OB.Zero Tryz.prog 127 ([i6 0,.string (bs []),.string (bs []),i6 0,i6 0,i6 0,.slice none 0 0]):=by unfold Go.OB.Zero; kernel_rfl
theorem rY:Go.OB.Zero Tryz.prog 132 ([.string (bs []),i6 0,.string (bs []),.string (bs []),i6 0,i6 0,i6 0,.slice none 0 0]):=by unfold Go.OB.Zero; kernel_rfl
theorem zero156:Go.OB.Zero Tryz.prog 156 ([.map none]):=by unfold Go.OB.Zero; kernel_rfl
theorem aEo:Go.OB.Zero Tryz.prog 203 ([.bool false,.bool false,.bool false,.bool false,.bool false,i6 0,i6 0]):=by unfold Go.OB.Zero; kernel_rfl
theorem el3:El Tryz.prog 3 1 8 ([i6 0]):=⟨by kernel_rfl,by kernel_rfl,by kernel_rfl,by decide,by decide⟩
theorem el9:El Tryz.prog 9 1 16 ([.string (bs [])]):=⟨by kernel_rfl,by kernel_rfl,by kernel_rfl,by decide,by decide⟩
theorem el41:El Tryz.prog 41 4 56 ([.string (bs []),i6 0,.slice none 0 0,i6 0]):=⟨by kernel_rfl,by kernel_rfl,by kernel_rfl,by decide,by decide⟩
theorem el46:El Tryz.prog 46 3 24 ([i6 0,i6 0,i6 0]):=⟨by kernel_rfl,by kernel_rfl,by kernel_rfl,by decide,by decide⟩
theorem el51:El Tryz.prog 51 2 16 ([i6 0,.bool false]):=⟨by kernel_rfl,by kernel_rfl,by kernel_rfl,by decide,by decide⟩
theorem el127:El Tryz.prog 127 7 88 ([i6 0,.string (bs []),.string (bs []),i6 0,i6 0,i6 0,.slice none 0 0]):=⟨by kernel_rfl,by kernel_rfl,by kernel_rfl,by decide,by decide⟩
theorem aCa:El Tryz.prog 132 8 104 ([.string (bs []),i6 0,.string (bs []),.string (bs []),i6 0,i6 0,i6 0,.slice none 0 0]):=⟨by kernel_rfl,by kernel_rfl,by kernel_rfl,by decide,by decide⟩
theorem bz41:Tryz.prog.built 41 []=some ([.string (bs []),i6 0,.slice none 0 0,i6 0]).toArray:=by kernel_rfl
theorem bz46:Tryz.prog.built 46 []=some ([i6 0,i6 0,i6 0]).toArray:=by kernel_rfl
theorem bt39_0 (a:Int):Tryz.prog.built 39 [(0,i6 a)]=some [i6 a,.slice none 0 0].toArray:=by kernel_rfl
theorem aCs (a:Str)(b:Int)(c:Option Addr)(d e:Nat)(f:Int):Tryz.prog.built 41 [(0,sb a),(1,.agg [i6 b,.slice c d e].toArray),(2,i6 f)]=some [sb a,i6 b,.slice c d e,i6 f].toArray:=by kernel_rfl
theorem bt46_0 (a:Int):Tryz.prog.built 46 [(0,i6 a)]=some [i6 a,i6 0,i6 0].toArray:=by kernel_rfl
theorem aBq (a:Int)(b:Bool):Tryz.prog.built 51 [(0,i6 a),(1,.bool b)]=some [i6 a,.bool b].toArray:=by kernel_rfl
theorem bt105_0_1 (a:Int)(b:Int):Tryz.prog.built 105 [(0,i6 a),(1,i6 b)]=some [i6 a,i6 b,i6 0,.string (bs [])].toArray:=by kernel_rfl
theorem bt107_0 (a:Str):Tryz.prog.built 107 [(0,sb a)]=some [sb a,i6 0,i6 0,i6 0,i6 0,.string (bs []),.slice none 0 0,.slice none 0 0,.slice none 0 0].toArray:=by kernel_rfl
theorem bt127_0_1 (a:Int)(b:Str):Tryz.prog.built 127 [(0,i6 a),(1,sb b)]=some [i6 a,sb b,.string (bs []),i6 0,i6 0,i6 0,.slice none 0 0].toArray:=by kernel_rfl
theorem bt132_0 (a:Str):Tryz.prog.built 132 [(0,sb a)]=some [sb a,i6 0,.string (bs []),.string (bs []),i6 0,i6 0,i6 0,.slice none 0 0].toArray:=by kernel_rfl
theorem aAy (a:Bool)(b:Bool)(c:Bool):Tryz.prog.built 203 [(0,.bool a),(2,.bool b),(3,.bool c)]=some [.bool a,.bool false,.bool b,.bool c,.bool false,i6 0,i6 0].toArray:=by kernel_rfl
abbrev gZ (b:Nat):Value:= .pointer (some ⟨b,0,none⟩)
def FAt (t i m:Nat):Prop:= ∀{ρ:Env} {w:World} {d:Option Tmp} {x:Operand} {ty:TypeId} {pos:String} {af:Array Edge} {g:Option (Nat×Bool)} {b o:Nat} (_:ev ρ x= .pointer (some ⟨b,o,none⟩)),Do Tryz.prog ⟨d,.fieldAddr t x i,ty,pos,af,g⟩ ρ w (.pointer (some ⟨b,o+m,none⟩)) w
theorem faO {t i m:Nat}(n:Nat)(h:uG Tryz.prog t i=some (m,some n):=by kernel_rfl)(hn:n≠0:=by decide):FAt t i m:=fun hx=>vJ h hn hx
theorem uU:FAt 39 0 0:=faO 1
theorem dS:FAt 39 1 1:=faO 1
theorem jE:FAt 41 0 0:=faO 1
theorem aV:FAt 41 1 1:=faO 2
theorem aAf:FAt 41 2 3:=faO 1
theorem jF:FAt 46 0 0:=faO 1
theorem mZ:FAt 46 1 1:=faO 1
theorem pK:FAt 46 2 2:=faO 1
theorem aCk:FAt 51 0 0:=faO 1
theorem fa51_1:FAt 51 1 1:=faO 1
theorem fa75_0:FAt 75 0 0:=faO 1
theorem aCo:FAt 75 1 1:=faO 1
theorem aQ:FAt 75 2 2:=faO 1
theorem aC:FAt 105 0 0:=faO 1
theorem fa105_2:FAt 105 2 2:=faO 1
theorem qM:FAt 105 3 3:=faO 1
theorem jX:FAt 107 0 0:=faO 1
theorem aA:FAt 107 1 1:=faO 1
theorem dG:FAt 107 2 2:=faO 4
theorem sD:FAt 107 3 6:=faO 3
theorem fa109_1:FAt 109 1 1:=faO 1
theorem jB:FAt 127 0 0:=faO 1
theorem aEn:FAt 127 1 1:=faO 1
theorem fa127_2:FAt 127 2 2:=faO 1
theorem aAk:FAt 127 3 3:=faO 1
theorem aEr:FAt 127 4 4:=faO 1
theorem fa127_5:FAt 127 5 5:=faO 1
theorem nK:FAt 127 6 6:=faO 1
theorem nM:FAt 132 0 0:=faO 1
theorem qA:FAt 132 1 1:=faO 7
theorem aEe:FAt 203 0 0:=faO 1
theorem aDq:FAt 203 1 1:=faO 1
theorem aEs:FAt 203 2 2:=faO 1
theorem aDz:FAt 203 3 3:=faO 1
theorem aDx:FAt 203 4 4:=faO 1
theorem fa203_5:FAt 203 5 5:=faO 1
theorem fa203_6:FAt 203 6 6:=faO 1
theorem eqf3:EqF Tryz.prog 3 (Fl.int .i64) 1:=EqF.int Tryz.underlying3
theorem eqf46:EqF Tryz.prog 46 aBy 2:=EqF.struct (k:=1) (fun x y h=>by cases x; cases y; simp_all) Tryz.underlying46 (by kernel_rfl) (by unfold Sz; kernel_rfl) ((aAt.cons rfl (by decide) (eqf3.up (by decide)) ((aAt.cons rfl (by decide) (eqf3.up (by decide)) (aAt.one rfl (by decide) (eqf3.up (by decide)))))))
theorem en10:En 10:=fH Tryz.func10
theorem en11:En 11:=fH Tryz.func11
theorem en12:En 12:=fH Tryz.func12
theorem en13:En 13:=fH Tryz.func13
theorem en17:En 17:=fH Tryz.func17
theorem en19:En 19:=fH Tryz.func19
theorem en20:En 20:=fH Tryz.func20
theorem en22:En 22:=fH Tryz.func22
theorem en26:En 26:=fH Tryz.func26
theorem en30:En 30:=fH Tryz.func30
theorem en31:En 31:=fH Tryz.func31
theorem en32:En 32:=fH Tryz.func32
theorem en33:En 33:=fH Tryz.func33
theorem en34:En 34:=fH Tryz.func34
theorem en35:En 35:=fH Tryz.func35
theorem en36:En 36:=fH Tryz.func36
theorem en37:En 37:=fH Tryz.func37
theorem en41:En 41:=fH Tryz.func41
theorem en42:En 42:=fH Tryz.func42
theorem en43:En 43:=fH Tryz.func43
theorem en44:En 44:=fH Tryz.func44
theorem en45:En 45:=fH Tryz.func45
theorem en46:En 46:=fH Tryz.func46
theorem en47:En 47:=fH Tryz.func47
theorem en49:En 49:=fH Tryz.func49
theorem en50:En 50:=fH Tryz.func50
theorem en51:En 51:=fH Tryz.func51
theorem en56:En 56:=fH Tryz.func56
theorem en58:En 58:=fH Tryz.func58
theorem en59:En 59:=fH Tryz.func59
theorem en60:En 60:=fH Tryz.func60
theorem en61:En 61:=fH Tryz.func61
theorem en62:En 62:=fH Tryz.func62
theorem en63:En 63:=fH Tryz.func63
theorem en64:En 64:=fH Tryz.func64
theorem en67:En 67:=fH Tryz.func67
theorem en68:En 68:=fH Tryz.func68
theorem en69:En 69:=fH Tryz.func69
theorem en71:En 71:=fH Tryz.func71
theorem en72:En 72:=fH Tryz.func72
theorem en78:En 78:=fH Tryz.func78
theorem en79:En 79:=fH Tryz.func79
theorem en80:En 80:=fH Tryz.func80
theorem en81:En 81:=fH Tryz.func81
theorem en82:En 82:=fH Tryz.func82
theorem en85:En 85:=fH Tryz.func85
theorem en86:En 86:=fH Tryz.func86
theorem en87:En 87:=fH Tryz.func87
theorem en88:En 88:=fH Tryz.func88
theorem en89:En 89:=fH Tryz.func89
theorem en90:En 90:=fH Tryz.func90
theorem en93:En 93:=fH Tryz.func93
theorem en95:En 95:=fH Tryz.func95
theorem en97:En 97:=fH Tryz.func97
theorem en98:En 98:=fH Tryz.func98
theorem en99:En 99:=fH Tryz.func99
theorem en101:En 101:=fH Tryz.func101
theorem en102:En 102:=fH Tryz.func102
theorem en103:En 103:=fH Tryz.func103
theorem en104:En 104:=fH Tryz.func104
theorem en105:En 105:=fH Tryz.func105
theorem en106:En 106:=fH Tryz.func106
theorem en107:En 107:=fH Tryz.func107
theorem en108:En 108:=fH Tryz.func108
theorem en109:En 109:=fH Tryz.func109
theorem en110:En 110:=fH Tryz.func110
theorem en112:En 112:=fH Tryz.func112
theorem en113:En 113:=fH Tryz.func113
theorem en115:En 115:=fH Tryz.func115
theorem en116:En 116:=fH Tryz.func116
theorem en117:En 117:=fH Tryz.func117
theorem en118:En 118:=fH Tryz.func118
theorem en130:En 130:=fH Tryz.func130
theorem en131:En 131:=fH Tryz.func131
theorem en137:En 137:=fH Tryz.func137
theorem en138:En 138:=fH Tryz.func138
theorem en139:En 139:=fH Tryz.func139
theorem en140:En 140:=fH Tryz.func140
theorem en141:En 141:=fH Tryz.func141
theorem en142:En 142:=fH Tryz.func142
theorem en144:En 144:=fH Tryz.func144
theorem en145:En 145:=fH Tryz.func145
theorem en146:En 146:=fH Tryz.func146
theorem en147:En 147:=fH Tryz.func147
theorem en148:En 148:=fH Tryz.func148
theorem en150:En 150:=fH Tryz.func150
theorem en157:En 157:=fH Tryz.func157
theorem en158:En 158:=fH Tryz.func158
theorem en167:En 167:=fH Tryz.func167
theorem en168:En 168:=fH Tryz.func168
theorem en169:En 169:=fH Tryz.func169
theorem en173:En 173:=fH Tryz.func173
theorem en174:En 174:=fH Tryz.func174
theorem mixed:Tryz.prog.follows .mixedOrders=true:=by kernel_rfl
theorem Fdqw (d:gB)(f:Nat)(h:Value)(i:Value)(j:Value)(r:gB)(c:Fdq d=some r)(O S:List Nat)(w:World)(H:Hd O w w S [.own Rp.str h 9 d.r.Phases,.own gX i 129 d.r.Moves,.own gY j 132 d.r.Rules,.blk f [sb d.text,i6 d.at_,i6 d.now.kind,i6 d.now.at_,i6 d.now.n,sb d.now.text,h,i,j] 107]):
  Cl 101 [gZ f] w fun e A=> ∃u9 s t,e= .returned (.tuple #[])∧Hd O w A S [.own Rp.str u9 9 r.r.Phases,.own gX s 129 r.r.Moves,.own gY t 132 r.r.Rules,.blk f [sb r.text,i6 r.at_,i6 r.now.kind,i6 r.now.at_,i6 r.now.n,sb r.now.text,u9,s,t] 107]:=by
 unfold Fdq at c
 refine CW 66 Tryz.func101 ?_
 refine zY ?_
 unfold Fef at c
 obtain ⟨B,u,C,c⟩:=yK c
 refine yX [2,3,4,5,6,7,8,9,10,11,12,13,14,15,16,17,18,19,20,21,22,23,24,25,26,27,28,29,30,31,32,33,34,35,36,37,38,39,40,41,42,43,44,45,46,47,48,49,50,51,52,53,54,55,56,57,58,59,60,61,62,63,64,65] (fun (g:Nat×Int)=>[]) (fun g wl=>Hd O w wl S [.own Rp.str h 9 d.r.Phases,.own gX i 129 d.r.Moves,.own gY j 132 d.r.Rules,.blk f [sb d.text,i6 g.2,i6 d.now.kind,i6 d.now.at_,i6 d.now.n,sb d.now.text,h,i,j] 107]∧fE B g.1 g.2=some r) (fun g=>g.1) (u,d.at_) zK ⟨H.pick [0,1,2,3],c⟩ ?_
 clear H c
 rintro ⟨u,l⟩ ρ ak ⟨H,c⟩
 obtain ⟨D,rfl,c⟩:=yO c
 have c:=yN C c
 refine zB fun al E=>?_
 refine zB fun am F=>?_
 have G:=H
 have H:=H.rebase
 have an:=H
 refine WP_mix0 H [0,1,2,3,4,5,6,7,8,9] (kz [0,0,0,1,0,0,0,1,0,0]) mixed ?_
 refine XM (gZ f)<| XP (fun _ _=>yF rfl)<| XP (fun _ _=>aA rfl)<| XR fJ H 3 1 rfl rfl<| XM (gZ f)<| XP (fun _ _=>yF rfl)<| XP (fun _ _=>jX rfl)<| XR dQ H 3 0 rfl rfl ?_
 obtain ⟨I,J,c⟩:=zC c
 refine XP (fun _ _=>yJ (bQ (s1:=d.text) u9 rfl) (congrArg (Value.int .i64) J)) ?_
 obtain ⟨K,L,c⟩:=zC c
 refine XP (fun _ _=>zL (xI (a:=l) (b:=I) rfl rfl) L)<| MxM.XL_nil fun ao hS=>?_
 have H:=H.sees hS
 have H:=G.rejoin H
 refine (zF (F _ _ ?_))
 refine yC (b:=K) rfl (fun m=>?_) (fun m=>?_)
 ·have c:=zU m c
  refine zQ (zF (E _ _ ?_))
  refine zY ?_
  refine zB fun ap M=>?_
  have N:=H
  have H:=H.rebase
  have aq:=H
  refine WP_mix0 H [0,1,2,3,4,5,6,7,8] (kz [0,0,0,1,0,0,0,1,0]) mixed ?_
  refine XM (gZ f)<| XP (fun _ _=>yF rfl)<| XP (fun _ _=>jX rfl)<| XR dQ H 3 0 rfl rfl<| XM (gZ f)<| XP (fun _ _=>yF rfl)<| XP (fun _ _=>aA rfl)<| XR fJ H 3 1 rfl rfl ?_
  obtain ⟨k,P,c⟩:=zD c
  refine XP (fun _ _=>nN (s1:=d.text) (q:=l) u9 rfl rfl P)<| MxM.XL_nil fun ar hS=>?_
  have H:=H.sees hS
  have H:=N.rejoin H
  refine (zF (M _ _ ?_))
  refine zY ?_
  obtain ⟨x,c,Q⟩:=zD c
  refine yI [22,23,24,25,26] (fun (g:Unit)=>[(22,.bool x)]) (fun g wl=>Hd O w wl S [.own Rp.str h 9 d.r.Phases,.own gX i 129 d.r.Moves,.own gY j 132 d.r.Rules,.blk f [sb d.text,i6 l,i6 d.now.kind,i6 d.now.at_,i6 d.now.n,sb d.now.text,h,i,j] 107]) ?_ ?_
  ·skip
   refine zB fun au R=>zA ?_
   obtain ⟨y,T,c⟩:=zC c
   refine zG (zL (fV (a:=k) (b:=32) rfl rfl) T)<| zI (.bool y)<| RN R<| yC (b:=y) rfl (fun o=>?_) (fun o=>?_)
   ·have c:=zU o c
    obtain rfl:=gI c
    exact (zQ (zF (meet ⟨(),(zJ rfl zK),H.pick [0,1,2,3]⟩)))
   have c:=zV o c
   refine zB fun av U=>zA ?_
   obtain ⟨V,X,c⟩:=zC c
   refine zG (zL (fV (a:=k) (b:=9) rfl rfl) X)<| zI (.bool V)<| RN U ?_
   obtain ⟨Y,c⟩:=yM c
   refine xM Y ?_
   refine zB fun aw Z=>zA ?_
   obtain ⟨aa,ab,c⟩:=zC c
   refine zG (zL (fV (a:=k) (b:=10) rfl rfl) ab)<| zI (.bool aa)<| RN Z ?_
   obtain ⟨ac,c⟩:=yM c
   refine xM ac ?_
   refine zA ?_
   obtain ⟨ad,ae,c⟩:=zC c
   refine zG (zL (fV (a:=k) (b:=13) rfl rfl) ae)<| zI (.bool ad) ?_
   obtain rfl:=gI c
   exact (zZ (zF (meet ⟨(),(zJ rfl zK),H.pick [0,1,2,3]⟩)))
  rintro _ ρ ax H
  have c:=Q
  refine yC (b:=x) rfl (fun p=>?_) (fun p=>?_)
  ·have c:=zU p c
   refine zA ?_
   refine zH (gZ f)<| zG (yF rfl)<| zG (aA rfl)<| Ld fJ H 3 1 rfl rfl ?_
   obtain ⟨z,af,c⟩:=zC c
   refine zG (xP (a:=l) (b:=1) rfl rfl af)<| zG (yF rfl)<| zG (aA rfl)<| xB rfl (xQ H 3 rfl sz3 rfl (v:=i6 z) rfl rfl rfl) ?_
   rintro ay H
   exact (zZ (yV (yV (zF (meet ⟨(D,z),zK,⟨H.pick [0,1,2,3],c⟩,Nat.lt_succ_self _⟩)))))
  have c:=zV p c
  refine zB fun az ag=>zA ?_
  obtain ⟨ah,ai,c⟩:=zC c
  refine zG (zL (fV (a:=k) (b:=35) rfl rfl) ai)<| zI (.bool ah)<| RN ag ?_
  obtain ⟨aj,c⟩:=yM c
  refine xM aj ?_
  obtain rfl:=gI c
  refine (zX (yE (yE (zS (yE (aEg rfl ?_))))))
  exact ⟨h,i,j,rfl,H.pick [0,1,2,3]⟩
 have c:=zV m c
 obtain rfl:=gI c
 refine (xG (yD (yD (yS (nC rfl ?_)))))
 exact ⟨h,i,j,rfl,H.pick [0,1,2,3]⟩
set_option maxRecDepth 100000 in
theorem Fatw (d:Int)(r:Bool)(c:Fat d=some r)(O S:List Nat)(w:World)(H:Hd O w w S []):
  Cl 68 [.int .u8 d] w fun e p=>e= .returned (.bool r)∧Hd O w p S []:=by
 unfold Fat at c
 refine CW 21 Tryz.func68 ?_
 refine zB fun F q=>zA<| zI (.bool false)<| RN q ?_
 obtain ⟨k,c,s⟩:=zD c
 refine yI [2,3,4,5,6,7,8,9,10,11,12,13,14,15,16,17,18,19,20] (fun (g:Unit)=>[(2,.bool k)]) (fun g wl=>Hd O w wl S []) ?_ ?_
 ·skip
  refine zA ?_
  refine zH (.int .u8 d) ?_
  obtain ⟨t,u,c⟩:=zC c
  refine zG (zL (bI (a:=d) (b:=97) rfl rfl) u) ?_
  obtain ⟨l,c,x⟩:=zD c
  refine eH 4 [5,6,7,8] [(8,.bool l)] (fun wl=>Hd O w wl S []) ?_ ?_
  ·skip
   refine xC (b:=t) rfl rfl rfl (fun f=>?_) (fun f=>?_)
   ·have c:=zU f c
    refine zH (.int .u8 d) ?_
    obtain ⟨y,z,c⟩:=zC c
    refine zG (zL (bV (a:=d) (b:=122) rfl rfl) z)<| zG (yG (v:= .bool y) rfl rfl) ?_
    obtain rfl:=gI c
    exact zZ (zF (meet ⟨(zJ rfl zK),H.pick []⟩))
   have c:=zV f c
   refine yH ?_
   refine yH ?_
   refine zG (yB (v:= .bool false) rfl rfl) ?_
   obtain rfl:=gI c
   exact zZ (zF (meet ⟨(zJ rfl zK),H.pick []⟩))
  rintro ρ G H
  have c:=x
  obtain ⟨m,c,A⟩:=zD c
  refine eH 8 [9,10,11,12,13,14,15,16] [(16,.bool m)] (fun wl=>Hd O w wl S []) ?_ ?_
  ·skip
   refine xC (b:=l) rfl rfl rfl (fun h=>?_) (fun h=>?_)
   ·have c:=zU h c
    refine yH ?_
    refine yH ?_
    refine yH ?_
    refine yH ?_
    refine yH ?_
    refine yH ?_
    refine zG (yG (v:= .bool true) rfl rfl) ?_
    obtain rfl:=gI c
    exact zZ (zF (meet ⟨(zJ rfl zK),H.pick []⟩))
   have c:=zV h c
   refine zH (.int .u8 d) ?_
   obtain ⟨B,C,c⟩:=zC c
   refine zG (zL (bI (a:=d) (b:=48) rfl rfl) C)<| xC (b:=B) rfl rfl rfl (fun i=>?_) (fun i=>?_)
   ·have c:=zU i c
    refine zH (.int .u8 d) ?_
    obtain ⟨n,D,c⟩:=zC c
    refine zG (zL (bV (a:=d) (b:=57) rfl rfl) D)<| zG (yG (v:= .bool n) rfl rfl)<| zG (yB (v:= .bool n) rfl rfl) ?_
    obtain rfl:=gI c
    exact zZ (zF (meet ⟨(zJ rfl zK),H.pick []⟩))
   have c:=zV i c
   refine yH ?_
   refine yH ?_
   refine zG (yB (v:= .bool false) rfl rfl)<| zG (yB (v:= .bool false) rfl rfl) ?_
   obtain rfl:=gI c
   exact zZ (zF (meet ⟨(zJ rfl zK),H.pick []⟩))
  rintro ρ I H
  have c:=A
  refine xC (b:=m) rfl rfl rfl (fun j=>?_) (fun j=>?_)
  ·have c:=zU j c
   refine yH ?_
   refine yH ?_
   refine zG (yG (v:= .bool true) rfl rfl)<| zI (.bool true) ?_
   obtain rfl:=gI c
   exact (zZ (zF (meet ⟨(),(zJ rfl zK),H.pick []⟩)))
  have c:=zV j c
  refine zH (.int .u8 d) ?_
  obtain ⟨o,E,c⟩:=zC c
  refine zG (zL (fV (a:=d) (b:=45) rfl rfl) E)<| zG (yB (v:= .bool o) rfl rfl)<| zI (.bool o) ?_
  obtain rfl:=gI c
  exact (zZ (zF (meet ⟨(),(zJ rfl zK),H.pick []⟩)))
 rintro _ ρ J H
 have c:=s
 obtain rfl:=gI c
 refine (zX (fB (v1:= .bool k) rfl rfl ?_))
 exact ⟨rfl,H.pick []⟩
set_option maxRecDepth 100000 in
theorem Fapw (c:Str)(r:Bool)(a:Fap c=some r)(O S:List Nat)(w:World)(H:Hd O w w S []):
  Cl 67 [sb c] w fun e P=>e= .returned (.bool r)∧Hd O w P S []:=by
 unfold Fap at a
 refine CW 21 Tryz.func67 ?_
 refine zB fun K1 Q=>zA<| zI (.bool false)<| RN Q<| zB fun a7 R=>zB fun a8 T=>zA<| zH (sb c)<| RN T<| zY ?_
 obtain ⟨x,a,U⟩:=zD a
 refine yI [4,5,6,7,8,9,10,11,12,13,14,15,16,17,18,19,20] (fun (g:Unit)=>[(4,.bool x)]) (fun g wl=>Hd O w wl S []) ?_ ?_
 ·skip
  refine zB fun a9 V=>zA ?_
  obtain ⟨y,X,a⟩:=zC a
  refine zG (zL (fO (s1:=c) (s2:=[112,104,97,115,101]) rfl rfl) X)<| zI (.bool y)<| RN V<| yC (b:=y) rfl (fun d=>?_) (fun d=>?_)
  ·have a:=zU d a
   obtain rfl:=gI a
   exact (zQ (zF (meet ⟨(),(zJ rfl zK),H.pick []⟩)))
  have a:=zV d a
  refine zB fun ba Y=>zA ?_
  obtain ⟨z,Z,a⟩:=zC a
  refine zG (zL (fO (s1:=c) (s2:=[109,111,118,101]) rfl rfl) Z)<| zI (.bool z)<| RN Y<| yC (b:=z) rfl (fun f=>?_) (fun f=>?_)
  ·have a:=zU f a
   obtain rfl:=gI a
   exact (zQ (zF (meet ⟨(),(zJ rfl zK),H.pick []⟩)))
  have a:=zV f a
  refine zB fun bb aa=>zA ?_
  obtain ⟨A,ab,a⟩:=zC a
  refine zG (zL (fO (s1:=c) (s2:=[114,117,108,101]) rfl rfl) ab)<| zI (.bool A)<| RN aa<| yC (b:=A) rfl (fun h=>?_) (fun h=>?_)
  ·have a:=zU h a
   obtain rfl:=gI a
   exact (zQ (zF (meet ⟨(),(zJ rfl zK),H.pick []⟩)))
  have a:=zV h a
  refine zB fun bc ac=>zA ?_
  obtain ⟨B,ad,a⟩:=zC a
  refine zG (zL (fO (s1:=c) (s2:=[105,102]) rfl rfl) ad)<| zI (.bool B)<| RN ac<| yC (b:=B) rfl (fun i=>?_) (fun i=>?_)
  ·have a:=zU i a
   obtain rfl:=gI a
   exact (zQ (zF (meet ⟨(),(zJ rfl zK),H.pick []⟩)))
  have a:=zV i a
  refine zB fun bd ae=>zA ?_
  obtain ⟨C,af,a⟩:=zC a
  refine zG (zL (fO (s1:=c) (s2:=[111,114]) rfl rfl) af)<| zI (.bool C)<| RN ae<| yC (b:=C) rfl (fun j=>?_) (fun j=>?_)
  ·have a:=zU j a
   obtain rfl:=gI a
   exact (zQ (zF (meet ⟨(),(zJ rfl zK),H.pick []⟩)))
  have a:=zV j a
  refine zB fun be ag=>zA ?_
  obtain ⟨D,ah,a⟩:=zC a
  refine zG (zL (fO (s1:=c) (s2:=[97,110,100]) rfl rfl) ah)<| zI (.bool D)<| RN ag<| yC (b:=D) rfl (fun k=>?_) (fun k=>?_)
  ·have a:=zU k a
   obtain rfl:=gI a
   exact (zQ (zF (meet ⟨(),(zJ rfl zK),H.pick []⟩)))
  have a:=zV k a
  refine zB fun bf ai=>zA ?_
  obtain ⟨E,aj,a⟩:=zC a
  refine zG (zL (fO (s1:=c) (s2:=[116,114,117,101]) rfl rfl) aj)<| zI (.bool E)<| RN ai<| yC (b:=E) rfl (fun l=>?_) (fun l=>?_)
  ·have a:=zU l a
   obtain rfl:=gI a
   exact (zQ (zF (meet ⟨(),(zJ rfl zK),H.pick []⟩)))
  have a:=zV l a
  refine zB fun bg ak=>zA ?_
  obtain ⟨F,al,a⟩:=zC a
  refine zG (zL (fO (s1:=c) (s2:=[102,97,108,115,101]) rfl rfl) al)<| zI (.bool F)<| RN ak<| yC (b:=F) rfl (fun m=>?_) (fun m=>?_)
  ·have a:=zU m a
   obtain rfl:=gI a
   exact (zQ (zF (meet ⟨(),(zJ rfl zK),H.pick []⟩)))
  have a:=zV m a
  refine zB fun bh am=>zA ?_
  obtain ⟨G,an,a⟩:=zC a
  refine zG (zL (fO (s1:=c) (s2:=[115,116,101,97,100,121]) rfl rfl) an)<| zI (.bool G)<| RN am<| yC (b:=G) rfl (fun n=>?_) (fun n=>?_)
  ·have a:=zU n a
   obtain rfl:=gI a
   exact (zQ (zF (meet ⟨(),(zJ rfl zK),H.pick []⟩)))
  have a:=zV n a
  refine zB fun bi ao=>zA ?_
  obtain ⟨I,ap,a⟩:=zC a
  refine zG (zL (fO (s1:=c) (s2:=[110,111,116]) rfl rfl) ap)<| zI (.bool I)<| RN ao<| yC (b:=I) rfl (fun o=>?_) (fun o=>?_)
  ·have a:=zU o a
   obtain rfl:=gI a
   exact (zQ (zF (meet ⟨(),(zJ rfl zK),H.pick []⟩)))
  have a:=zV o a
  refine zB fun bj aq=>zA ?_
  obtain ⟨J,ar,a⟩:=zC a
  refine zG (zL (fO (s1:=c) (s2:=[102,111,114]) rfl rfl) ar)<| zI (.bool J)<| RN aq<| yC (b:=J) rfl (fun p=>?_) (fun p=>?_)
  ·have a:=zU p a
   obtain rfl:=gI a
   exact (zQ (zF (meet ⟨(),(zJ rfl zK),H.pick []⟩)))
  have a:=zV p a
  refine zB fun bk au=>zA ?_
  obtain ⟨K,av,a⟩:=zC a
  refine zG (zL (fO (s1:=c) (s2:=[119,105,116,104,105,110]) rfl rfl) av)<| zI (.bool K)<| RN au<| yC (b:=K) rfl (fun q=>?_) (fun q=>?_)
  ·have a:=zU q a
   obtain rfl:=gI a
   exact (zQ (zF (meet ⟨(),(zJ rfl zK),H.pick []⟩)))
  have a:=zV q a
  refine zB fun bl aw=>zA ?_
  obtain ⟨L,ax,a⟩:=zC a
  refine zG (zL (fO (s1:=c) (s2:=[99,111,117,110,116]) rfl rfl) ax)<| zI (.bool L)<| RN aw<| yC (b:=L) rfl (fun s=>?_) (fun s=>?_)
  ·have a:=zU s a
   obtain rfl:=gI a
   exact (zQ (zF (meet ⟨(),(zJ rfl zK),H.pick []⟩)))
  have a:=zV s a
  refine zB fun bm ay=>zA ?_
  obtain ⟨M,az,a⟩:=zC a
  refine zG (zL (fO (s1:=c) (s2:=[111,102]) rfl rfl) az)<| zI (.bool M)<| RN ay<| yC (b:=M) rfl (fun t=>?_) (fun t=>?_)
  ·have a:=zU t a
   obtain rfl:=gI a
   exact (zQ (zF (meet ⟨(),(zJ rfl zK),H.pick []⟩)))
  have a:=zV t a
  refine zB fun bn a0=>zA ?_
  obtain ⟨N,a1,a⟩:=zC a
  refine zG (zL (fO (s1:=c) (s2:=[114,105,115,101,115]) rfl rfl) a1)<| zI (.bool N)<| RN a0<| yC (b:=N) rfl (fun u=>?_) (fun u=>?_)
  ·have a:=zU u a
   obtain rfl:=gI a
   exact (zQ (zF (meet ⟨(),(zJ rfl zK),H.pick []⟩)))
  have a:=zV u a
  refine zA ?_
  obtain ⟨a2,a3,a⟩:=zC a
  refine zG (zL (fO (s1:=c) (s2:=[115,105,110,99,101]) rfl rfl) a3)<| zI (.bool a2) ?_
  obtain rfl:=gI a
  exact (zZ (zF (meet ⟨(),(zJ rfl zK),H.pick []⟩)))
 rintro _ ρ bo H
 have a:=U
 refine yC (b:=x) rfl (fun v=>?_) (fun v=>?_)
 ·have a:=zU v a
  refine zB fun bp a4=>zA<| zI (.bool true)<| RN a4 ?_
  obtain rfl:=gI a
  refine (zX (yE (zS (fB (v1:= .bool true) rfl rfl ?_))))
  exact ⟨rfl,H.pick []⟩
 have a:=zV v a
 refine (zQ (yV (zF (R _ _ ?_))))
 refine zB fun bq a5=>zA<| zI (.bool false)<| RN a5 ?_
 obtain rfl:=gI a
 refine (zX (fB (v1:= .bool false) rfl rfl ?_))
 exact ⟨rfl,H.pick []⟩
theorem Fadw (d:Int)(f:Int)(h:Int)(r:Bool)(c:Fad d f h=some r)(O S:List Nat)(w:World)(H:Hd O w w S []):
  Cl 45 [i6 d,i6 f,i6 h] w fun e l=>e= .returned (.bool r)∧Hd O w l S []:=by
 unfold Fad at c
 refine CW 15 Tryz.func45 ?_
 refine zB fun s m=>zA<| zI (.bool false)<| RN m ?_
 obtain ⟨j,c,n⟩:=zD c
 refine yI [6,7,8,9,10,11,12,13,14] (fun (g:Unit)=>[(6,.bool j)]) (fun g wl=>Hd O w wl S []) ?_ ?_
 ·skip
  refine zA ?_
  refine zH (i6 d)<| zH (i6 f) ?_
  obtain ⟨o,p,c⟩:=zC c
  refine zG (zL (bI (a:=d) (b:=f) rfl rfl) p)<| xC (b:=o) rfl rfl rfl (fun i=>?_) (fun i=>?_)
  ·have c:=zU i c
   refine zH (i6 d)<| zH (i6 h) ?_
   obtain ⟨k,q,c⟩:=zC c
   refine zG (zL (bV (a:=d) (b:=h) rfl rfl) q)<| zG (yG (v:= .bool k) rfl rfl)<| zI (.bool k) ?_
   obtain rfl:=gI c
   exact (zZ (zF (meet ⟨(),(zJ rfl zK),H.pick []⟩)))
  have c:=zV i c
  refine yH ?_
  refine yH ?_
  refine yH ?_
  refine zG (yB (v:= .bool false) rfl rfl)<| zI (.bool false) ?_
  obtain rfl:=gI c
  exact (zZ (zF (meet ⟨(),(zJ rfl zK),H.pick []⟩)))
 rintro _ ρ t H
 have c:=n
 obtain rfl:=gI c
 refine (zX (fB (v1:= .bool j) rfl rfl ?_))
 exact ⟨rfl,H.pick []⟩
set_option maxRecDepth 100000 in
theorem Fagw (d:Str)(r:Bool)(c:Fag d=some r)(O S:List Nat)(w:World)(H:Hd O w w S []):
  Cl 41 [sb d] w fun e x=>e= .returned (.bool r)∧Hd O w x S []:=by
 unfold Fag at c
 refine CW 33 Tryz.func41 ?_
 refine zB fun K1 y=>zA<| zI (.bool false)<| RN y<| zB fun a5 z=>?_
 obtain ⟨n,c,A⟩:=zD c
 refine yI [4,5,6,7,8,9,10,11,12,13,14,15,16,17,18,19,20,21] (fun (g:Unit)=>[(21,.bool n)]) (fun g wl=>Hd O w wl S []) ?_ ?_
 ·skip
  refine zA ?_
  refine zH (sb d) ?_
  obtain ⟨B,C,c⟩:=zC c
  refine zG (yJ (bQ (s1:=d) u9 rfl) (congrArg (Value.int .i64) C)) ?_
  have D:=H
  obtain ⟨E,F,c⟩:=zD c
  refine zT rfl rfl (zO en45 rfl) (Fadw B 1 30 _ F _ _ _ (H.enter [] [])) ?_
  rintro _ a6 ⟨rfl,G⟩
  have H:=D.step (G.only:Only [] _ _)
  refine ⟨_,rfl,?_⟩
  obtain ⟨I,J,c⟩:=zC c
  refine zG (zL (fU (p:=E) rfl) J) ?_
  obtain ⟨o,c,K⟩:=zD c
  refine eH 5 [8,9,10,11,12] [(12,.bool o)] (fun wl=>Hd O w wl S []) ?_ ?_
  ·skip
   refine xC (b:=I) rfl rfl rfl (fun h=>?_) (fun h=>?_)
   ·have c:=zU h c
    refine yH ?_
    refine yH ?_
    refine yH ?_
    refine zG (yG (v:= .bool true) rfl rfl) ?_
    obtain rfl:=gI c
    exact zZ (zF (meet ⟨(zJ rfl zK),H.pick []⟩))
   have c:=zV h c
   refine zH (sb d) ?_
   obtain ⟨L,M,c⟩:=zD c
   refine zG (nN (s1:=d) (q:=0) u9 rfl rfl M) ?_
   obtain ⟨N,P,c⟩:=zC c
   refine zG (zL (xI (a:=L) (b:=97) rfl rfl) P)<| zG (yB (v:= .bool N) rfl rfl) ?_
   obtain rfl:=gI c
   exact zZ (zF (meet ⟨(zJ rfl zK),H.pick []⟩))
  rintro ρ a7 H
  have c:=K
  obtain ⟨s,c,Q⟩:=zD c
  refine eH 5 [13,14,15,16,17] [(17,.bool s)] (fun wl=>Hd O w wl S []) ?_ ?_
  ·skip
   refine xC (b:=o) rfl rfl rfl (fun i=>?_) (fun i=>?_)
   ·have c:=zU i c
    refine yH ?_
    refine yH ?_
    refine yH ?_
    refine zG (yG (v:= .bool true) rfl rfl) ?_
    obtain rfl:=gI c
    exact zZ (zF (meet ⟨(zJ rfl zK),H.pick []⟩))
   have c:=zV i c
   refine zH (sb d) ?_
   obtain ⟨R,T,c⟩:=zD c
   refine zG (nN (s1:=d) (q:=0) u9 rfl rfl T) ?_
   obtain ⟨U,V,c⟩:=zC c
   refine zG (zL (dD (a:=R) (b:=122) rfl rfl) V)<| zG (yB (v:= .bool U) rfl rfl) ?_
   obtain rfl:=gI c
   exact zZ (zF (meet ⟨(zJ rfl zK),H.pick []⟩))
  rintro ρ a8 H
  have c:=Q
  refine xC (b:=s) rfl rfl rfl (fun j=>?_) (fun j=>?_)
  ·have c:=zU j c
   refine yH ?_
   refine yH ?_
   refine zG (yG (v:= .bool true) rfl rfl) ?_
   obtain rfl:=gI c
   exact (zZ (zF (meet ⟨(),(zJ rfl zK),H.pick []⟩)))
  have c:=zV j c
  refine zH (sb d) ?_
  have X:=H
  obtain ⟨Y,Z,c⟩:=zD c
  refine zT rfl rfl (zO en67 rfl) (Fapw d _ Z _ _ _ (H.enter [] [])) ?_
  rintro _ a9 ⟨rfl,aa⟩
  have H:=X.step (aa.only:Only [] _ _)
  refine ⟨_,rfl,?_⟩
  refine zG (yB (v:= .bool Y) rfl rfl) ?_
  obtain rfl:=gI c
  exact (zZ (zF (meet ⟨(),(zJ rfl zK),H.pick []⟩)))
 rintro _ ρ ba H
 have c:=A
 refine yC (b:=n) rfl (fun k=>?_) (fun k=>?_)
 ·have c:=zU k c
  refine zB fun bb ab=>zA<| zI (.bool false)<| RN ab ?_
  obtain rfl:=gI c
  refine (zX (zS (fB (v1:= .bool false) rfl rfl ?_)))
  exact ⟨rfl,H.pick []⟩
 have c:=zV k c
 refine zQ (zF (z _ _ ?_))
 obtain ⟨ac,ad,c⟩:=xH c
 refine yI [2,3,22,23,24,25,26,27,28,29,30,31,32] (fun (g:Unit)=>[]) (fun g wl=>Hd O w wl S []∧ac ()=some r) ?_ ?_
 ·skip
  refine zB fun bc ae=>zA<| zH (sb d) ?_
  obtain ⟨af,ag,c⟩:=zC c
  refine zG (yJ (bQ (s1:=d) u9 rfl) (congrArg (Value.int .i64) ag))<| zH (i6 0)<| RN ae<| zY ?_
  unfold Fb8 at c
  obtain ⟨ah,t,ai,c⟩:=yK c
  refine yX [2,3,24,25,26,27,28,29,30,31,32] (fun (g:Nat×Int)=>[(24,i6 g.2)]) (fun g wl=>Hd O w wl S []∧fE ah g.1 g.2=some r) (fun g=>g.1) (t,0) (zJ rfl zK) ⟨H.pick [],c⟩ ?_
  clear H c
  rintro ⟨t,f⟩ ρ bd ⟨H,c⟩
  obtain ⟨aj,rfl,c⟩:=yO c
  have c:=yN ai c
  refine zB fun be ak=>zA ?_
  obtain ⟨al,am,c⟩:=zC c
  refine zG (zL (xI (a:=f) (b:=af) rfl rfl) am)<| RN ak<| zB fun bf an=>yC (b:=al) rfl (fun l=>?_) (fun l=>?_)
  ·have c:=zU l c
   refine zQ (zF (an _ _ ?_))
   refine zB fun bg ao=>?_
   refine zY ?_
   refine zB fun bh ap=>zA<| zH (i6 f)<| zI (i6 f)<| RN ap<| zB fun bi aq=>zA<| zH (sb d)<| zH (i6 f) ?_
   obtain ⟨ar,au,c⟩:=zD c
   refine zG (nN (s1:=d) (q:=f) u9 rfl rfl au) ?_
   have av:=H
   obtain ⟨aw,ax,c⟩:=zD c
   refine zT rfl rfl (zO en68 rfl) (Fatw ar _ ax _ _ _ (H.enter [] [])) ?_
   rintro _ bj ⟨rfl,ay⟩
   have H:=av.step (ay.only:Only [] _ _)
   refine ⟨_,rfl,?_⟩
   obtain ⟨az,a0,c⟩:=zC c
   refine zG (zL (fU (p:=aw) rfl) a0)<| RN aq<| yC (b:=az) rfl (fun m=>?_) (fun m=>?_)
   ·have c:=zU m c
    refine zB fun bk a1=>zA<| zI (.bool false)<| RN a1 ?_
    obtain rfl:=gI c
    refine (zX (yE (zS (zS (yE (zS (fB (v1:= .bool false) rfl rfl ?_)))))))
    exact ⟨rfl,H.pick []⟩
   have c:=zV m c
   refine (zQ (yV (zF (ao _ _ ?_))))
   refine zA ?_
   obtain ⟨u,a2,c⟩:=zC c
   refine zG (xP (a:=f) (b:=1) rfl rfl a2)<| zH (i6 u) ?_
   exact (zZ (zF (meet ⟨(aj,u),(zJ rfl zK),⟨H.pick [],c⟩,Nat.lt_succ_self _⟩)))
  have c:=zV l c
  exact (xG (yD (yD (yS (zF (meet ⟨(),zK,⟨H.pick [],c⟩⟩))))))
 rintro _ ρ bl ⟨H,c⟩
 have c:=xO ad c
 refine zB fun bm a3=>zA<| zI (.bool true)<| RN a3 ?_
 obtain rfl:=gI c
 refine (zX (fB (v1:= .bool true) rfl rfl ?_))
 exact ⟨rfl,H.pick []⟩
theorem Fb5w (f:Str)(d:Str)(r:Bool)(c:Fb5 f d=some r)(O S:List Nat)(w:World)(H:Hd O w w S []):
  Cl 140 [sb f,sb d] w fun e h=>e= .returned (.bool r)∧Hd O w h S []:=by
 unfold Fb5 at c
 refine CW 18 Tryz.func140 ?_
 refine zB fun x i=>zA<| zI (.bool false)<| RN i<| zB fun y j=>zA<| zH (sb f) ?_
 obtain ⟨k,l,c⟩:=zC c
 refine zG (yJ (bQ (s1:=f) u9 rfl) (congrArg (Value.int .i64) l))<| zH (sb d) ?_
 obtain ⟨m,n,c⟩:=zC c
 refine zG (yJ (bQ (s1:=d) u9 rfl) (congrArg (Value.int .i64) n)) ?_
 obtain ⟨z,o,c⟩:=zC c
 refine zG (zL (bI (a:=k) (b:=m) rfl rfl) o) ?_
 obtain ⟨p,c⟩:=eX c
 refine dL true p ?_
 refine zH (sb f)<| zH (sb d) ?_
 obtain ⟨A,q,c⟩:=zC c
 refine zG (yJ (bQ (s1:=d) u9 rfl) (congrArg (Value.int .i64) q)) ?_
 obtain ⟨s,t,c⟩:=zD c
 refine zG (Do_cut_h (s1:=f) u9 rfl rfl t)<| zH (sb d) ?_
 obtain ⟨g,u,c⟩:=zC c
 refine zG (zL (fO (s1:=s) (s2:=d) rfl rfl) u)<| zG (yG (v:= .bool g) rfl rfl)<| zI (.bool g)<| RN j ?_
 obtain rfl:=gI c
 refine (zX (fB (v1:= .bool g) rfl rfl ?_))
 exact ⟨rfl,H.pick []⟩
theorem Fcow (a:Str)(c:Str)(r:Str)(b:Fco a c=some r)(O S:List Nat)(w:World)(H:Hd O w w S []):
  Cl 167 [sb a,sb c] w fun e d=>e= .returned (sb r)∧Hd O w d S []:=by
 unfold Fco at b
 refine CW 13 Tryz.func167 ?_
 refine zB fun n f=>zA<| zI (.string (bs []))<| RN f<| zB fun o g=>zB fun p h=>zA<| zH (sb a)<| zH (sb c) ?_
 have i:=H
 obtain ⟨q,j,b⟩:=zD b
 refine zT rfl rfl (zO en140 rfl) (Fb5w a c _ j _ _ _ (H.enter [] [])) ?_
 rintro _ s ⟨rfl,k⟩
 have H:=i.step (k.only:Only [] _ _)
 refine ⟨_,rfl,?_⟩
 refine RN h ?_
 obtain ⟨l,b⟩:=yM b
 refine xM l ?_
 refine zQ (zF (g _ _ ?_))
 refine zB fun t m=>zA<| zH (sb a)<| zI (sb a)<| RN m ?_
 obtain rfl:=gI b
 refine (zX (fB (v1:=sb a) rfl rfl ?_))
 exact ⟨rfl,H.pick []⟩
theorem Fdjw (a:Str)(b:Str)(r:Str)(c:Fdj a b=some r)(O S:List Nat)(w:World)(H:Hd O w w S []):
  Cl 139 [sb a,sb b] w fun e f=>e= .returned (sb r)∧Hd O w f S []:=by
 unfold Fdj at c
 refine CW 8 Tryz.func139 ?_
 refine zB fun l g=>zA<| zI (.string (bs []))<| RN g<| zB fun m h=>zA<| zH (sb a)<| zH (sb b) ?_
 have i:=H
 obtain ⟨d,j,c⟩:=zD c
 refine zT rfl rfl (zO en167 rfl) (Fcow a b _ j _ _ _ (H.enter [] [])) ?_
 rintro _ n ⟨rfl,k⟩
 have H:=i.step (k.only:Only [] _ _)
 refine ⟨_,rfl,?_⟩
 refine zI (sb d)<| RN h ?_
 obtain rfl:=gI c
 refine (zX (fB (v1:=sb d) rfl rfl ?_))
 exact ⟨rfl,H.pick []⟩
theorem Fcww (d:gB)(f:Nat)(g:Value)(h:Value)(j:Value)(r:gB)(c:Fcw d=some r)(O S:List Nat)(w:World)(H:Hd O w w S [.own Rp.str g 9 d.r.Phases,.own gX h 129 d.r.Moves,.own gY j 132 d.r.Rules,.blk f [sb d.text,i6 d.at_,i6 d.now.kind,i6 d.now.at_,i6 d.now.n,sb d.now.text,g,h,j] 107,.fz (.gi 5)]):
  Cl 102 [gZ f] w fun e y=> ∃p q s,e= .returned (.tuple #[])∧Hd O w y S [.own Rp.str p 9 r.r.Phases,.own gX q 129 r.r.Moves,.own gY s 132 r.r.Rules,.blk f [sb r.text,i6 r.at_,i6 r.now.kind,i6 r.now.at_,i6 r.now.n,sb r.now.text,p,q,s] 107]:=by
 unfold Fcw at c
 refine CW 55 Tryz.func102 ?_
 refine zB fun al z=>zA<| zH (gZ f)<| zG (yF rfl)<| zG (dG rfl)<| zG (qM rfl)<| Ld dQ H 3 5 rfl rfl<| zI (sb d.now.text)<| RN z<| zB fun am A=>zA<| zH (sb d.now.text) ?_
 obtain ⟨⟨k,B⟩,C,c⟩:=zD c
 refine zT rfl rfl (zO en137 rfl) (E.Fc0w d.now.text _ C _ _ _ (H.enter [] [4])) ?_
 rintro _ an ⟨l,rfl,D⟩
 have H:=H.back1 [4] rfl D
 refine ⟨_,rfl,?_⟩
 refine zH (.tuple #[i6 k,l])<| zG (xA (v:=i6 k) rfl rfl)<| zG (xA (v:=l) rfl rfl)<| zI (i6 k)<| zI l<| RN A<| zY<| zB fun ao F=>zA<| zH (sb d.now.text) ?_
 have G:=H
 obtain ⟨t,I,c⟩:=zD c
 refine zT rfl rfl (zO en67 rfl) (Fapw d.now.text _ I _ _ _ (H.enter [] [])) ?_
 rintro _ ap ⟨rfl,J⟩
 have H:=G.step (J.only:Only [] _ _)
 refine ⟨_,rfl,?_⟩
 refine zI (.bool t)<| RN F<| yC (b:=t) rfl (fun m=>?_) (fun m=>?_)
 ·have c:=zU m c
  refine zA ?_
  refine zH (gZ f)<| zG (yF rfl)<| zG (dG rfl)<| zG (aC rfl)<| xB rfl (xQ H 3 rfl sz3 rfl (v:=i6 1) rfl rfl rfl) ?_
  rintro aq H
  obtain rfl:=gI c
  refine (zZ (yV (nC rfl ?_)))
  exact ⟨g,h,j,rfl,H.pick [0,1,2,3]⟩
 have c:=zV m c
 refine zB fun ar K=>zA<| zH (sb d.now.text) ?_
 have L:=H
 obtain ⟨u,M,c⟩:=zD c
 refine zT rfl rfl (zO en41 rfl) (Fagw d.now.text _ M _ _ _ (H.enter [] [])) ?_
 rintro _ au ⟨rfl,N⟩
 have H:=L.step (N.only:Only [] _ _)
 refine ⟨_,rfl,?_⟩
 refine zI (.bool u)<| RN K<| yC (b:=u) rfl (fun o=>?_) (fun o=>?_)
 ·have c:=zU o c
  refine zA ?_
  refine zH (gZ f)<| zG (yF rfl)<| zG (dG rfl)<| zG (aC rfl)<| xB rfl (xQ H 3 rfl sz3 rfl (v:=i6 2) rfl rfl rfl) ?_
  rintro av H
  obtain rfl:=gI c
  refine (zZ (yV (nC rfl ?_)))
  exact ⟨g,h,j,rfl,H.pick [0,1,2,3]⟩
 have c:=zV o c
 refine zB fun aw P=>zA<| zH l ?_
 obtain ⟨ax,Q,c⟩:=zC c
 refine zG (zL (Do_eqlif ui178 (H.item (i:=5) rfl) rfl) Q) ?_
 obtain ⟨R,c,T⟩:=zD c
 refine eH 6 [34,35,36,37,38,39] [(39,.bool R)] (fun wl=>Hd O w wl S [.own Rp.str g 9 d.r.Phases,.own gX h 129 d.r.Moves,.own gY j 132 d.r.Rules,.blk f [sb d.text,i6 d.at_,i6 d.now.kind,i6 d.now.at_,i6 d.now.n,sb d.now.text,g,h,j] 107,.fz (.gi 5),.fz (.ic l B)]) ?_ ?_
 ·skip
  obtain ⟨U,c⟩:=eX c
  refine dL true U ?_
  refine zH (i6 k) ?_
  have V:=H
  obtain ⟨X,Y,c⟩:=zD c
  refine zT rfl rfl (zO en138 rfl) (E.Fc4w k _ Y _ _ _ (H.enter [] [])) ?_
  rintro _ ay ⟨rfl,Z⟩
  have H:=V.step (Z.only:Only [] _ _)
  refine ⟨_,rfl,?_⟩
  refine zH (sb d.now.text) ?_
  obtain ⟨aa,ab,c⟩:=zC c
  refine zG (zL (fO (s1:=X) (s2:=d.now.text) rfl rfl) ab)<| zG (yG (v:= .bool aa) rfl rfl) ?_
  obtain rfl:=gI c
  exact zZ (zF (meet ⟨(zJ rfl zK),H.pick [0,1,2,3,4,5]⟩))
 rintro ρ az H
 have c:=T
 obtain ⟨ac,c⟩:=eX c
 refine dL true ac ?_
 refine zH (sb d.now.text) ?_
 have ad:=H
 obtain ⟨ae,af,c⟩:=zD c
 refine zT rfl rfl (zO en139 rfl) (Fdjw d.now.text [45] _ af _ _ _ (H.enter [] [])) ?_
 rintro _ a0 ⟨rfl,ag⟩
 have H:=ad.step (ag.only:Only [] _ _)
 refine ⟨_,rfl,?_⟩
 obtain ⟨ah,ai,c⟩:=zC c
 refine zG (yJ (bQ (s1:=ae) u9 rfl) (congrArg (Value.int .i64) ai)) ?_
 obtain ⟨x,aj,c⟩:=zC c
 refine zG (zL (bV (a:=ah) (b:=16) rfl rfl) aj)<| zG (yG (v:= .bool x) rfl rfl)<| zI (.bool x)<| RN P ?_
 obtain ⟨ak,c⟩:=eX c
 refine kF ak ?_
 refine zA ?_
 refine zH (gZ f)<| zH (gZ f)<| zH (i6 k)<| zG (yF rfl)<| zG (dG rfl)<| zG (aC rfl)<| xB rfl (xQ H 3 rfl sz3 rfl (v:=i6 3) rfl rfl rfl) ?_
 rintro a1 H
 refine zG (yF rfl)<| zG (dG rfl)<| zG (fa105_2 rfl)<| xB rfl (xQ H 3 rfl sz3 rfl (v:=i6 k) rfl rfl rfl) ?_
 rintro a2 H
 obtain rfl:=gI c
 refine (zZ (yV (nC rfl ?_)))
 exact ⟨g,h,j,rfl,H.pick [0,1,2,3]⟩
theorem Fdgw (a:Str)(b:Str)(r:Bool)(c:Fdg a b=some r)(O S:List Nat)(w:World)(H:Hd O w w S []):
  Cl 103 [sb a,sb b] w fun e f=>e= .returned (.bool r)∧Hd O w f S []:=by
 unfold Fdg at c
 refine CW 8 Tryz.func103 ?_
 refine zB fun l g=>zA<| zI (.bool false)<| RN g<| zB fun m h=>zA<| zH (sb a)<| zH (sb b) ?_
 have i:=H
 obtain ⟨d,j,c⟩:=zD c
 refine zT rfl rfl (zO en140 rfl) (Fb5w a b _ j _ _ _ (H.enter [] [])) ?_
 rintro _ n ⟨rfl,k⟩
 have H:=i.step (k.only:Only [] _ _)
 refine ⟨_,rfl,?_⟩
 refine zI (.bool d)<| RN h ?_
 obtain rfl:=gI c
 refine (zX (fB (v1:= .bool d) rfl rfl ?_))
 exact ⟨rfl,H.pick []⟩
theorem Fajw (h:gB)(f:Nat)(u:Value)(x:Value)(y:Value)(r:gB)(c:Faj h=some r)(O S:List Nat)(w:World)(H:Hd O w w S [.own Rp.str u 9 h.r.Phases,.own gX x 129 h.r.Moves,.own gY y 132 h.r.Rules,.blk f [sb h.text,i6 h.at_,i6 h.now.kind,i6 h.now.at_,i6 h.now.n,sb h.now.text,u,x,y] 107,.fz (.gi 5)]):
  Cl 78 [gZ f] w fun e o=> ∃F G I,e= .returned (.tuple #[])∧Hd O w o S [.own Rp.str F 9 r.r.Phases,.own gX G 129 r.r.Moves,.own gY I 132 r.r.Rules,.blk f [sb r.text,i6 r.at_,i6 r.now.kind,i6 r.now.at_,i6 r.now.n,sb r.now.text,F,G,I] 107]:=by
 unfold Faj at c
 refine CW 107 Tryz.func78 ?_
 refine zB fun b8 U=>zA<| zH (gZ f) ?_
 obtain ⟨d,V,c⟩:=zD c
 refine zT rfl rfl (zO en101 rfl) (Fdqw (gB.mk h.text h.at_ (gQ.mk h.now.kind h.now.at_ h.now.n h.now.text) (Rules.mk h.r.Phases h.r.Moves h.r.Rules)) f u x y _ V _ _ _ (H.enter [0,1,2,3] [])) ?_
 rintro _ b9 ⟨j,k,l,rfl,X⟩
 have H:Hd _ _ _ _ [_,_,_,_,_]:=H.back [0,1,2,3] [] rfl X
 refine ⟨_,rfl,?_⟩
 refine RN U<| zB fun ca Y=>zA<| zH (gZ f)<| zG (yF rfl)<| zG (aA rfl)<| Ld fJ H 4 1 rfl rfl<| zI (i6 d.at_)<| RN Y<| zB fun cb Z=>zA<| zH (gZ f)<| zH (i6 d.at_)<| zG (eY (cs:=[i6 0,i6 d.at_,i6 0,.string (bs [])]) (bt105_0_1 _ _))<| zG (yF rfl)<| zG (dG rfl)<| xB rfl (yQ (vs:=[i6 0,i6 d.at_,i6 0,.string (bs [])]) H 4 rfl vV rfl rfl rfl ⟨rfl,rfl,rfl,rfl,trivial⟩ rfl) ?_
 rintro cc H
 refine RN Z<| zB fun cd aa=>zB fun ce ab=>zA<| zH (i6 d.at_)<| zH (gZ f)<| zG (yF rfl)<| zG (jX rfl)<| Ld dQ H 4 0 rfl rfl ?_
 obtain ⟨ac,ad,c⟩:=zC c
 refine zG (yJ (bQ (s1:=d.text) u9 rfl) (congrArg (Value.int .i64) ad)) ?_
 obtain ⟨ae,af,c⟩:=zC c
 refine zG (zL (fV (a:=d.at_) (b:=ac) rfl rfl) af)<| RN ab<| yC (b:=ae) rfl (fun z=>?_) (fun z=>?_)
 ·have c:=zU z c
  obtain rfl:=gI c
  refine (zX (zS (aEg rfl ?_)))
  exact ⟨j,k,l,rfl,H.pick [1,2,3,4]⟩
 have c:=zV z c
 refine zQ (zF (aa _ _ ?_))
 obtain ⟨p,c,ag⟩:=zD c
 refine yI [23,24,25,26,27,28,29,30,31,32,33,34,35,36,37,38,39,40,41,42,43,44,45,46,47,48,49,50,51] (fun (g:Unit)=>[]) (fun g wl=>Hd O w wl S [.fz (.gi 5),.own Rp.str j 9 d.r.Phases,.own gX k 129 d.r.Moves,.own gY l 132 d.r.Rules,.blk f [sb d.text,i6 p,i6 0,i6 d.at_,i6 0,.string (bs []),j,k,l] 107]) ?_ ?_
 ·skip
  refine zY ?_
  unfold Fee at c
  obtain ⟨ah,J,ai,c⟩:=yK c
  refine yX [23,24,25,26,27,28,29,30,31,32,33,34,35,36,37,38,39,40,41,42,43,44,45,46,47,48,49,50,51] (fun (g:Nat×Int)=>[]) (fun g wl=>Hd O w wl S [.fz (.gi 5),.own Rp.str j 9 d.r.Phases,.own gX k 129 d.r.Moves,.own gY l 132 d.r.Rules,.blk f [sb d.text,i6 g.2,i6 0,i6 d.at_,i6 0,.string (bs []),j,k,l] 107]∧fE ah g.1 g.2=some p) (fun g=>g.1) (J,d.at_) zK ⟨H.pick [0,1,2,3,4],c⟩ ?_
  clear H c
  rintro ⟨J,s⟩ ρ cf ⟨H,c⟩
  obtain ⟨aj,rfl,c⟩:=yO c
  have c:=yN ai c
  refine zB fun cg ak=>?_
  obtain ⟨K,c,al⟩:=zD c
  refine yI [23,24,25,26,27,28,29,30,31,32,33,34,35,36,37,38,39,40,41,42,43,44] (fun (g:Unit)=>[(44,.bool K)]) (fun g wl=>Hd O w wl S [.fz (.gi 5),.own Rp.str j 9 d.r.Phases,.own gX k 129 d.r.Moves,.own gY l 132 d.r.Rules,.blk f [sb d.text,i6 s,i6 0,i6 d.at_,i6 0,.string (bs []),j,k,l] 107]) ?_ ?_
  ·skip
   have L:=H
   have H:=H.rebase
   have ch:=H
   refine WP_mix0 H [0,1,2,3,4,5,6,7,8,9,10,11,12,13,14,15,16,17,18,19,20,21] (kz [0,0,0,1,0,0,0,1,0,0,0,0,0,0,1,0,0,0,1,0,4,0]) mixed ?_
   refine XM (gZ f)<| XP (fun _ _=>yF rfl)<| XP (fun _ _=>aA rfl)<| XR fJ H 4 1 rfl rfl<| XM (gZ f)<| XP (fun _ _=>yF rfl)<| XP (fun _ _=>jX rfl)<| XR dQ H 4 0 rfl rfl ?_
   obtain ⟨am,an,c⟩:=zC c
   refine XP (fun _ _=>yJ (bQ (s1:=d.text) u9 rfl) (congrArg (Value.int .i64) an)) ?_
   obtain ⟨ao,ap,c⟩:=zC c
   refine XP (fun _ _=>zL (xI (a:=s) (b:=am) rfl rfl) ap)<| MxM.XL_splitb (b:=ao) rfl rfl rfl rfl (fun A=>?_) (fun A=>?_)
   ·have c:=zU A c
    refine XM (gZ f)<| XP (fun _ _=>yF rfl)<| XP (fun _ _=>jX rfl)<| XR dQ H 4 0 rfl rfl<| XM (gZ f)<| XP (fun _ _=>yF rfl)<| XP (fun _ _=>aA rfl)<| XR fJ H 4 1 rfl rfl ?_
    obtain ⟨aq,ar,c⟩:=zD c
    refine XP (fun _ _=>nN (s1:=d.text) (q:=s) u9 rfl rfl ar) ?_
    have au:=H
    obtain ⟨M,av,c⟩:=zD c
    refine MxM.XL_fcall oS rfl rfl rfl (v:= .bool M) (fun o t=>zO en68 rfl) (fun o t=>jO (Fatw aq _ av _ _ _ (Hd.fresh0 o))) ?_
    have H:=au
    refine XP (fun _ _=>yG (v:= .bool M) rfl rfl)<| MxM.XL_nil fun ci hS=>?_
    have H:=H.sees hS
    have H:=L.rejoin H
    obtain rfl:=gI c
    exact (zF (meet ⟨(),(zJ rfl zK),H.pick [0,1,2,3,4]⟩))
   have c:=zV A c
   refine XO<| XO<| XO<| MxM.XL_offr oS rfl rfl rfl ?_
   refine XO<| XO<| XO<| MxM.XL_offr oS rfl rfl rfl ?_
   refine XO<| MxM.XL_offf oS rfl rfl rfl ?_
   refine XP (fun _ _=>yB (v:= .bool false) rfl rfl)<| MxM.XL_nil fun cj hS=>?_
   have H:=H.sees hS
   have H:=L.rejoin H
   obtain rfl:=gI c
   exact (zF (meet ⟨(),(zJ rfl zK),H.pick [0,1,2,3,4]⟩))
  rintro _ ρ ck H
  have c:=al
  refine yC (b:=K) rfl (fun B=>?_) (fun B=>?_)
  ·have c:=zU B c
   refine zQ (zF (ak _ _ ?_))
   refine zY ?_
   refine zA ?_
   refine zH (gZ f)<| zG (yF rfl)<| zG (aA rfl)<| Ld fJ H 4 1 rfl rfl ?_
   obtain ⟨N,aw,c⟩:=zC c
   refine zG (xP (a:=s) (b:=1) rfl rfl aw)<| zG (yF rfl)<| zG (aA rfl)<| xB rfl (xQ H 4 rfl sz3 rfl (v:=i6 N) rfl rfl rfl) ?_
   rintro cl H
   exact (zZ (yV (zF (meet ⟨(aj,N),zK,⟨H.pick [0,1,2,3,4],c⟩,Nat.lt_succ_self _⟩))))
  have c:=zV B c
  obtain rfl:=gI c
  exact (xG (yD (yD (yS (zF (meet ⟨(),zK,H.pick [0,1,2,3,4]⟩))))))
 rintro _ ρ cm H
 have c:=ag
 refine zB fun cn ax=>?_
 refine zB fun co ay=>zA<| zH (gZ f)<| zG (yF rfl)<| zG (aA rfl)<| Ld fJ H 4 1 rfl rfl<| zH (i6 d.at_) ?_
 obtain ⟨az,a0,c⟩:=zC c
 refine zG (zL (dD (a:=p) (b:=d.at_) rfl rfl) a0)<| RN ay<| yC (b:=az) rfl (fun C=>?_) (fun C=>?_)
 ·have c:=zU C c
  refine zB fun cp a1=>?_
  have a2:=H
  have H:=H.rebase
  have cq:=H
  refine WP_mix0 H [0,1,2,3,4,5,6,7,8,9,10,11,12,13,14] (kz [0,0,0,0,1,0,0,0,0,1,0,0,0,0,3]) mixed ?_
  refine XM (gZ f)<| XM (gZ f)<| XP (fun _ _=>yF rfl)<| XP (fun _ _=>jX rfl)<| XR dQ H 4 0 rfl rfl<| XM (i6 d.at_)<| XM (gZ f)<| XP (fun _ _=>yF rfl)<| XP (fun _ _=>aA rfl)<| XR fJ H 4 1 rfl rfl ?_
  obtain ⟨P,a3,c⟩:=zD c
  refine XP (fun _ _=>Do_cut_lh (s1:=d.text) u9 rfl rfl rfl a3)<| XP (fun _ _=>yF rfl)<| XP (fun _ _=>dG rfl)<| XP (fun _ _=>qM rfl)<| MxM.XL_exU oS rfl rfl (fun o t=>xQ (H.sees t) 4 rfl sz9 rfl (v:=sb P) rfl rfl rfl) ?_
  rintro o cr t H
  refine ⟨H.only,?_⟩
  refine MxM.XL_nil fun ct hS=>?_
  have H:=H.sees hS
  have H:=a2.rejoin H
  refine (zF (a1 _ _ ?_))
  refine zB fun cu a4=>zA<| zH (gZ f) ?_
  obtain ⟨cv,a5,c⟩:=zD c
  refine zT rfl rfl (zO en102 rfl) (Fcww (gB.mk d.text p (gQ.mk 0 d.at_ 0 P) (Rules.mk d.r.Phases d.r.Moves d.r.Rules)) f j k l _ a5 _ _ _ (H.enter [1,2,3,4] [0])) ?_
  rintro _ cw ⟨a6,a7,a8,rfl,a9⟩
  have H:Hd _ _ _ _ [_,_,_,_,_]:=H.back [1,2,3,4] [0] rfl a9
  refine ⟨_,rfl,?_⟩
  refine RN a4 ?_
  obtain rfl:=gI c
  refine (zX (zS (aEg rfl ?_)))
  exact ⟨a6,a7,a8,rfl,H.pick [1,2,3,4]⟩
 have c:=zV C c
 refine zQ (zF (ax _ _ ?_))
 refine zB fun cx cy=>?_
 refine zB fun cz ba=>zA ?_
 obtain ⟨c0,bb,c⟩:=zC c
 subst bb
 refine yT rfl rfl (jG (r:=Rp.str) (xl:=[[60,61],[33,61],[62,61],[60],[61],[62],[40],[41]]) (cs:=[.string (bs [60,61]),.string (bs [33,61]),.string (bs [62,61]),.string (bs [60]),.string (bs [61]),.string (bs [62]),.string (bs [40]),.string (bs [41])]) u36 el9 (by decide) (by decide) rfl (fP (vs:=[.string (bs [60,61]),.string (bs [33,61]),.string (bs [62,61]),.string (bs [60]),.string (bs [61]),.string (bs [62]),.string (bs [40]),.string (bs [41])]) (by decide) rfl rfl ⟨rfl,rfl,rfl,rfl,rfl,rfl,rfl,rfl,trivial⟩ rfl) H ⟨[.string (bs [60,61])],[.string (bs [33,61]),.string (bs [62,61]),.string (bs [60]),.string (bs [61]),.string (bs [62]),.string (bs [40]),.string (bs [41])],rfl,rfl,⟨[.string (bs [33,61])],[.string (bs [62,61]),.string (bs [60]),.string (bs [61]),.string (bs [62]),.string (bs [40]),.string (bs [41])],rfl,rfl,⟨[.string (bs [62,61])],[.string (bs [60]),.string (bs [61]),.string (bs [62]),.string (bs [40]),.string (bs [41])],rfl,rfl,⟨[.string (bs [60])],[.string (bs [61]),.string (bs [62]),.string (bs [40]),.string (bs [41])],rfl,rfl,⟨[.string (bs [61])],[.string (bs [62]),.string (bs [40]),.string (bs [41])],rfl,rfl,⟨[.string (bs [62])],[.string (bs [40]),.string (bs [41])],rfl,rfl,⟨[.string (bs [40])],[.string (bs [41])],rfl,rfl,⟨[.string (bs [41])],[],rfl,rfl,rfl⟩⟩⟩⟩⟩⟩⟩⟩) ?_
 rintro bc c1 H
 obtain ⟨bd,be,c⟩:=zC c
 obtain ⟨c2,c3,bf⟩:=Sr.len (Sr.of_own (H.item (i:=5) rfl))
 refine zG (yJ (xJ u36 bf) (congrArg (Value.int .i64) be))<| zH (i6 0)<| RN ba<| zY ?_
 unfold Fdx at c
 obtain ⟨bg,Q,bh,c⟩:=yK c
 refine yX [4,76,77,78,79,80,81,82,83,84,85,86,87,88,89,90,91,92,93,94,95,96,97,98,99,100,101,102,103,104] (fun (g:Nat×Int)=>[(76,i6 g.2)]) (fun g wl=>Hd O w wl S [.fz (.gi 5),.own Rp.str j 9 d.r.Phases,.own gX k 129 d.r.Moves,.own gY l 132 d.r.Rules,.blk f [sb d.text,i6 p,i6 0,i6 d.at_,i6 0,.string (bs []),j,k,l] 107,.own Rp.str bc 9 ([[60,61],[33,61],[62,61],[60],[61],[62],[40],[41]]:List Str)]∧fE bg g.1 g.2=some r) (fun g=>g.1) (Q,0) (zJ rfl zK) ⟨H.pick [0,1,2,3,4,5],c⟩ ?_
 clear H c
 rintro ⟨Q,R⟩ ρ c4 ⟨H,c⟩
 obtain ⟨bi,rfl,c⟩:=yO c
 have c:=yN bh c
 refine zB fun c5 bj=>zA ?_
 obtain ⟨c6,bk,c⟩:=zC c
 refine zG (zL (xI (a:=R) (b:=bd) rfl rfl) bk)<| RN bj<| zB fun c7 bl=>?_
 obtain ⟨bm,c⟩:=eX c
 refine kF bm ?_
 refine zQ (zF (bl _ _ ?_))
 refine zB fun c8 bn=>?_
 refine zY ?_
 refine zB fun c9 bo=>zA ?_
 obtain ⟨m,D,c⟩:=zD c
 obtain ⟨da,db,bp,bq,br,bt⟩:=dN (H.item (i:=5) rfl) D
 obtain rfl:bp= [sb m]:=br
 refine zG (yU u36 sz9 bq rfl (zN D).1 (zN D).2.1 rfl rfl)<| zG (yZ dQ rfl (Cells.get bt (i:=0) rfl))<| zI (sb m)<| RN bo<| zB fun dc bu=>zA<| zH (gZ f)<| zG (yF rfl)<| zG (jX rfl)<| Ld dQ H 4 0 rfl rfl<| zH (i6 d.at_) ?_
 obtain ⟨bv,bw,c⟩:=zD c
 refine zG (Do_cut_l (s1:=d.text) u9 rfl rfl bw)<| zH (sb m) ?_
 have bx:=H
 obtain ⟨bz,b0,c⟩:=zD c
 refine zT rfl rfl (zO en103 rfl) (Fdgw bv m _ b0 _ _ _ (H.enter [] [])) ?_
 rintro _ dd ⟨rfl,b1⟩
 have H:=bx.step (b1.only:Only [] _ _)
 refine ⟨_,rfl,?_⟩
 refine RN bu<| yC (b:=bz) rfl (fun E=>?_) (fun E=>?_)
 ·have c:=zU E c
  refine zB fun de b2=>zA<| zH (gZ f)<| zH (gZ f)<| zH (gZ f)<| zH (sb m)<| zH (i6 d.at_)<| zH (sb m) ?_
  obtain ⟨b3,b4,c⟩:=zC c
  refine zG (yJ (bQ (s1:=m) u9 rfl) (congrArg (Value.int .i64) b4)) ?_
  obtain ⟨b5,b6,c⟩:=zC c
  refine zG (xP (a:=d.at_) (b:=b3) rfl rfl b6)<| zG (yF rfl)<| zG (dG rfl)<| zG (aC rfl)<| xB rfl (xQ H 4 rfl sz3 rfl (v:=i6 4) rfl rfl rfl) ?_
  rintro df H
  refine zG (yF rfl)<| zG (dG rfl)<| zG (qM rfl)<| xB rfl (xQ H 4 rfl sz9 rfl (v:=sb m) rfl rfl rfl) ?_
  rintro dg H
  refine zG (yF rfl)<| zG (aA rfl)<| xB rfl (xQ H 4 rfl sz3 rfl (v:=i6 b5) rfl rfl rfl) ?_
  rintro dh H
  refine RN b2 ?_
  obtain rfl:=gI c
  refine (zX (yE (zS (zS (yE (zS (aEg rfl ?_)))))))
  exact ⟨j,k,l,rfl,H.pick [1,2,3,4]⟩
 have c:=zV E c
 refine (zQ (yV (zF (bn _ _ ?_))))
 refine zA ?_
 obtain ⟨T,b7,c⟩:=zC c
 refine zG (xP (a:=R) (b:=1) rfl rfl b7)<| zH (i6 T) ?_
 exact (zZ (zF (meet ⟨(bi,T),(zJ rfl zK),⟨H.pick [0,1,2,3,4,5],c⟩,Nat.lt_succ_self _⟩)))
theorem Fahw (k:Option gB)(f:Str)(v1:Option Addr)(r:Bool)(c:Fah k f=some r)(O S:List Nat)(w:World)(H:Hd O w w S [.fz (.pt eG v1 k)]):
  Cl 79 [.pointer v1,sb f] w fun e D=>e= .returned (.bool r)∧Hd O w D S []:=by
 unfold Fah at c
 refine CW 28 Tryz.func79 ?_
 refine zB fun K3 E=>zA<| zI (.bool false)<| RN E ?_
 obtain ⟨u,c,F⟩:=zD c
 refine yI [4,5,6,7,8,9,10,11,12,13,14,15,16,17,18,19,20,21,22,23,24,25,26,27] (fun (g:Unit)=>[(4,.bool u)]) (fun g wl=>Hd O w wl S []) ?_ ?_
 ·skip
  refine zA ?_
  refine zH (.pointer v1) ?_
  obtain ⟨d,G,c⟩:=zD c
  obtain ⟨l,m,a1,I,J,K,L,M⟩:=qN ((H.item (i:=0) rfl):PtF _ _ _ _ _) G
  obtain ⟨o,p,q,rfl,N,P,Q⟩:=bJ L
  have H:=H.fzs [.at l m _,.sl Rp.str o d.r.Phases,.sl gX p d.r.Moves,.sl gY q d.r.Rules] ⟨⟨J,K,M⟩,N,P,Q,trivial⟩
  refine zG (yF (ad:=⟨l,m,none⟩) (congrArg Value.pointer I))<| zG (dG rfl)<| zG (aC rfl)<| zG (yZ fJ rfl (Cells.get (H.item (i:=1) rfl).2.2 (i:=2) rfl)) ?_
  obtain ⟨R,T,c⟩:=zC c
  refine zG (zL (fV (a:=d.now.kind) (b:=1) rfl rfl) T) ?_
  obtain ⟨x,c,U⟩:=zD c
  refine eH 8 [11,12,13,14,15,16,17,18] [(18,.bool x)] (fun wl=>Hd O w wl S [.fz (.pt eG v1 k),.fz (.at l m [sb d.text,i6 d.at_,i6 d.now.kind,i6 d.now.at_,i6 d.now.n,sb d.now.text,o,p,q]),f1 Rp.str o d.r.Phases,f1 gX p d.r.Moves,f1 gY q d.r.Rules]) ?_ ?_
  ·skip
   refine xC (b:=R) rfl rfl rfl (fun s=>?_) (fun s=>?_)
   ·have c:=zU s c
    refine yH ?_
    refine yH ?_
    refine yH ?_
    refine yH ?_
    refine yH ?_
    refine yH ?_
    refine zG (yG (v:= .bool true) rfl rfl) ?_
    obtain rfl:=gI c
    exact zZ (zF (meet ⟨(zJ rfl zK),H.pick [0,1,2,3,4]⟩))
   have c:=zV s c
   refine zH (.pointer v1) ?_
   obtain ⟨h,V,c⟩:=zD c
   obtain ⟨y,z,a2,X,Y,Z,aa,ab⟩:=qN ((H.item (i:=0) rfl):PtF _ _ _ _ _) V
   obtain ⟨ac,ae,af,rfl,ag,ah,ai⟩:=bJ aa
   have H:=H.fzs [.at y z _,.sl Rp.str ac h.r.Phases,.sl gX ae h.r.Moves,.sl gY af h.r.Rules] ⟨⟨Y,Z,ab⟩,ag,ah,ai,trivial⟩
   refine zG (yF (ad:=⟨y,z,none⟩) (congrArg Value.pointer X))<| zG (dG rfl)<| zG (aC rfl)<| zG (yZ fJ rfl (Cells.get (H.item (i:=5) rfl).2.2 (i:=2) rfl)) ?_
   obtain ⟨aj,ak,c⟩:=zC c
   refine zG (zL (fV (a:=h.now.kind) (b:=4) rfl rfl) ak)<| zG (yB (v:= .bool aj) rfl rfl) ?_
   obtain rfl:=gI c
   exact zZ (zF (meet ⟨(zJ rfl zK),H.pick [0,1,2,3,4]⟩))
  rintro ρ a3 H
  have c:=U
  refine xC (b:=x) rfl rfl rfl (fun t=>?_) (fun t=>?_)
  ·have c:=zU t c
   refine zH (.pointer v1) ?_
   obtain ⟨j,al,c⟩:=zD c
   obtain ⟨A,B,a4,am,an,ao,ap,aq⟩:=qN ((H.item (i:=0) rfl):PtF _ _ _ _ _) al
   obtain ⟨ar,au,av,rfl,aw,ax,ay⟩:=bJ ap
   have H:=H.fzs [.at A B _,.sl Rp.str ar j.r.Phases,.sl gX au j.r.Moves,.sl gY av j.r.Rules] ⟨⟨an,ao,aq⟩,aw,ax,ay,trivial⟩
   refine zG (yF (ad:=⟨A,B,none⟩) (congrArg Value.pointer am))<| zG (dG rfl)<| zG (qM rfl)<| zG (yZ dQ rfl (Cells.get (H.item (i:=5) rfl).2.2 (i:=5) rfl))<| zH (sb f) ?_
   obtain ⟨C,az,c⟩:=zC c
   refine zG (zL (fO (s1:=j.now.text) (s2:=f) rfl rfl) az)<| zG (yG (v:= .bool C) rfl rfl)<| zI (.bool C) ?_
   obtain rfl:=gI c
   exact (zZ (zF (meet ⟨(),(zJ rfl zK),H.pick []⟩)))
  have c:=zV t c
  refine yH ?_
  refine yH ?_
  refine yH ?_
  refine yH ?_
  refine yH ?_
  refine yH ?_
  refine yH ?_
  refine zG (yB (v:= .bool false) rfl rfl)<| zI (.bool false) ?_
  obtain rfl:=gI c
  exact (zZ (zF (meet ⟨(),(zJ rfl zK),H.pick []⟩)))
 rintro _ ρ a5 H
 have c:=F
 obtain rfl:=gI c
 refine (zX (fB (v1:= .bool u) rfl rfl ?_))
 exact ⟨rfl,H.pick []⟩
end Go.Proofs.YtgmikmoapfmedaaGreatDoor.L
