/- Laws that the claim stands on; no condition beyond those stated. -/
import Derived.Test.YtibkjjklfhfipadGreatDoorXVp
import Derived.Sort.OwnSorted
import Derived.Shelf.SlSortCmp.NoneTotal
import Derived.Shelf.Small.Strs
import Derived.Shelf.Slices.CompactS
import Derived.Test.YtibkjjklfhfipadGreatDoorRows
import Derived.Shelf.SlLaysF
import Derived.Shelf.Lays
namespace Go.Lf
open Go.RowKit Go.OB Go.Sort Go.Shelf Go.Proofs
def cfS (x y:Str):Int:=Lib.compareBytes x y
theorem ltS: ∀x y:Str,ltOf cfS x y=slt x y
 | [],[]=>rfl
 | [],_::_=>rfl
 |_::_,[]=>rfl
 |a::x,b::y=>by
  have h:=ltS x y;rw [aGo,<-h];unfold ltOf cfS;rw [Lib.compareBytes]
  by_cases c:a<b
  ·simp [c]
  ·by_cases d:b<a
   ·have f: ¬a=b:=λe=>c (e▸d)
    simp [c,d,f]
   ·have f:a=b:=(u8eq a b).2 (by have:=mt (u8lt a b).2 c;have:=mt (u8lt b a).2 d;omega);subst f;simp [c]
theorem swoS:SWO (ltOf cfS) where
 irrefl x:=by rw [ltS];exact vF x
 trans x y z h1 h2:=by rw [ltS]at *;exact sO x y z h1 h2
 ntrans x y z h1 h2:=by rw [ltS]at *;exact aMv x y z h1 h2
variable {P:Program}{ρ ρ':Ren}{O S:List Nat}{w0 w:World}{l:List Th}{i e:Nat}{v:Value}{xl:List Str}
theorem uT: ∀{l:List Str}{F:Nat->Prop}{w:World}{cs:List Value},rows Rp.str F w cs l↔cs=l.map encStr
 | [],_,_,cs=>Iff.rfl
 |x::l,F,w,cs=>by
  constructor
  ·rintro⟨c,d,rfl,a,b⟩;have a:c=[.string (bs x)]:=a;rw [a,uT.1 b];rfl
  ·rintro rfl;exact⟨[.string (bs x)],l.map encStr,rfl,rfl,uT.2 rfl⟩
theorem cmpS (a:Lays.n106 P ρ')(W:World)(x y:Str):Calls P (ρ'.f 106) #[encStr x,encStr y] W λe w'=>e= .returned (.int .i64 (cfS x y))/\w'=W:=Any.strings_Compare a (bs x) (bs y) W
theorem sortS_own (L:SlLaysF.n6 P ρ) (G:Lays.n106 P ρ') (H:Hd O w0 w S l) (hi:l[i]? =some (.own Rp.str v e xl)) (I:xl.length<4611686018427387904)
  (J: ∀args w,(callFunc (ρ'.f 106) args).run P w= .ok (.enter (ρ'.f 106) args) w):
  Calls P (ρ.f 6) #[v,.func (.func (ρ'.f 106)) #[] #[]] w λr w'=>r= .returned (.tuple #[])/\Hd O w0 w' S (l.set i (.own Rp.str v e (aDo xl))):=by
 obtain⟨_,u,K⟩:=H.V hi;have u:=uT.1 u;subst u;have a:=aTu xl;rcases K.2 with ⟨rfl,M⟩|⟨g,cap,s,rfl,_,o,z,A,B,p⟩
 ·have Q:xl=[]:=List.eq_nil_of_length_eq_zero M;subst Q;refine(AnyF.slices_SortFunc_none (P:=P) (ρ:=ρ) {L with} none 0 (.func (.func (ρ'.f 106)) #[] #[]) w).mono λr w' ⟨c,d⟩=>⟨c,?_⟩
  subst d;have R:aDo []=[]:=List.eq_nil_of_length_eq_zero a;have T:l.set i (.own Rp.str (.slice none 0 0) e [])=l:=by
   apply List.ext_getElem?;intro j;rw [List.getElem?_set]
   by_cases D:i=j
   ·subst D;rw [if_pos rfl,if_pos (gS.1 hi).1];exact hi.symm
   ·rw [if_neg D]
  rw [R,T];exact H
 ·have X:Holds encStr w g 0 xl.toArray:=holds_of_block o (by have h:s.toList.take (xl.length*1)=xl.map encStr:=p;rw [Nat.mul_one]at h;exact h);have q:=Any.slices_SortFunc_total L encStr (λ_=>rfl) cfS swoS (ρ'.f 106) #[] g 0 cap xl.toArray w J (λm os _ _ x y=>(cmpS G _ x y).mono λ_ _ ⟨c,d⟩=>⟨c,0, #[],by rw [d,grow_empty];rfl⟩) X (Array.getElem?_eq_some_iff.1 o).1 (by simpa using I) (λx y c d=>by rw [ltS]at c d;exact aFu x y c d);have Y:(λx y:Str=> !ltOf cfS y x)=λx y=> !slt y x:=by funext x y;rw [ltS]
  rw [Y]at q;refine q.mono λr w' ⟨c,n,os,d⟩=>⟨c,?_⟩
  subst d;have t:=grownBy_sorted (w:=w) (g:=g) (n:=n) (os:=os) (aDo xl).toArray;have E:=ownsRow_sorted (base:=0) (n:=n) (os:=os) (ts:=aDo xl) a (Nat.zero_le _) o z A (show s.size=cap*1 from B);refine H.turn hi ⟨t.os,t.tape,t.output,t.size,λk hk C=>t.block k hk (λh=>C ?_)⟩ (λ_=>⟨_,uT.2 rfl,?_⟩) ?_ (wH _)
  ·simp [Th.blocks,ob,jH]at h⊢;exact h
  ·rw [a];exact E
  ·intro b F;exact⟨.inl F,by have:=aBd E b F;exact this.2⟩
theorem aSy (L:Lays.n194 P ρ) (H:Hd O w0 w S l) (hi:l[i]? =some (.own Rp.str v e xl)) (N:xl.length<=9223372036854775807):
  Calls P (ρ.f 194) #[v] w λr w'=> ∃u,r= .returned u/\Hd O w0 w' S (l.set i (.own Rp.str u e (qN xl))):=by
 obtain⟨_,B,Q⟩:=H.V hi;have B:=uT.1 B;subst B;have a:=cmpS1_len xl;have same: ∀u,l[i]? =some u->l.set i u=l:=by
  intro u R;apply List.ext_getElem?;intro j;rw [List.getElem?_set]
  by_cases J:i=j
  ·subst J;rw [if_pos rfl,if_pos (gS.1 hi).1];exact R.symm
  ·rw [if_neg J]
 rcases Q.2 with ⟨rfl,T⟩|⟨g,cap,p,rfl,_,s,c,C,D,d⟩
 ·have Y:xl=[]:=List.eq_nil_of_length_eq_zero T;subst Y;refine(Any.slices_Compact_string_empty L none 0 w).mono λr w' ⟨E,F⟩=>⟨_,E,?_⟩
  subst F;have e1:qN []=[]:=List.eq_nil_of_length_eq_zero (by simpa using a);rw [e1,same _ hi];exact H
 ·have hH:Holds encStr w g 0 xl.toArray:=holds_of_block s (by have h:p.toList.take (xl.length*1)=xl.map encStr:=d;rw [Nat.mul_one]at h;exact h);refine(Any.slices_Compact_string L g 0 cap xl w hH N c).mono λr w' ⟨E,q,F⟩=>⟨_,E,?_⟩
  subst F;have G:(qN xl++List.replicate (xl.length-(qN xl).length) []).length=xl.length:=by simp;omega
  have o:=grownBy_sorted (w:=w) (g:=g) (n:=q) (os:= #[]) (qN xl++List.replicate (xl.length-(qN xl).length) []).toArray;have K:=ownsRow_sorted (base:=0) (n:=q) (os:= #[]) (ts:=qN xl++List.replicate (xl.length-(qN xl).length) []) G (Nat.zero_le _) s c C (show p.size=cap*1 from D);rw [grow_empty]at o K;have t:(putRow encStr (Sort.ahead w q) g 0 (Lib.compact xl++List.replicate (xl.length-(Lib.compact xl).length) []).toArray).ownsRow 0 e 1 (.slice (some ⟨g,0,none⟩) (qN xl).length cap) (qN xl).length ((qN xl).map encStr):=by
   obtain⟨-,x⟩:=K;rcases x with ⟨x,_⟩|⟨_,_,y,x,h4,h5,_,h7,h8,h9⟩
   ·cases x
   ·cases x
    refine⟨by simp,.inr ⟨g,cap,y,rfl,h4,h5,Nat.le_trans a c,h7,h8,?_⟩⟩;have z:=congrArg (List.take ((qN xl).length*1)) h9;rw [List.take_take,Nat.min_eq_left (by omega)]at z;rw [z,List.map_append,Nat.mul_one,List.take_left' (by simp)]
  refine H.turn hi ⟨o.os,o.tape,o.output,o.size,λk hk I=>o.block k hk (λh=>I ?_)⟩ (λ_=>⟨_,uT.2 rfl,?_⟩) ?_ (wH _)
  ·simp [Th.blocks,ob,jH]at h⊢;exact h
  ·exact t
  ·intro b A;have A:b∈ob (.slice (some ⟨g,0,none⟩) (qN xl).length cap):=A;refine⟨.inl (by simpa [Th.blocks,ob,jH]using A),by have:=aBd t b A;exact this.2⟩
end Go.Lf
namespace Go.Proofs.YtibkjjklfhfipadGreatDoor
open Go Go.Shelf Go.Proofs
def bW:Go.Shelf.Ren:=⟨λn=>match n with |6=>83|14=>113|15=>114|20=>139|21=>140|22=>141|23=>142|24=>143|25=>144|26=>145|27=>146|28=>147|29=>148|46=>177|47=>178|48=>179|49=>180|50=>181|57=>196|_=>0,λn=>match n with |0=>0|3=>3|4=>4|5=>5|9=>9|22=>22|24=>9|25=>136|39=>158|45=>177|46=>178|50=>182|53=>185|55=>166|66=>228|70=>155|76=>274|77=>275|_=>0,λn=>match n with |_=>0⟩
set_option maxRecDepth 100000 in
theorem shG6:Bears Tryz.prog (bW.f 6) (SlBodyF.n6 bW):=by
 have h:Tryz.f83={SlBodyF.n6 bW with name:= "slices.SortFunc[[]string,string]" }:=by kernel_rfl
 exact⟨ "slices.SortFunc[[]string,string]",by kernel_rfl,h▸Tryz.func83⟩
set_option maxRecDepth 100000 in
theorem shG14:Bears Tryz.prog (bW.f 14) (SlBodyF.n14 bW):=by
 have h:Tryz.f113={SlBodyF.n14 bW with name:= "slices.pdqsortCmpFunc[string]" }:=by kernel_rfl
 exact⟨ "slices.pdqsortCmpFunc[string]",by kernel_rfl,h▸Tryz.func113⟩
set_option maxRecDepth 100000 in
theorem shG15:Tryz.prog.funcs[bW.f 15]? =some (SlBodyF.n15 bW):=by
 have h:Tryz.f114=SlBodyF.n15 bW:=by kernel_rfl
 exact h▸Tryz.func114
set_option maxRecDepth 100000 in
theorem shG20:Bears Tryz.prog (bW.f 20) (SlBodyF.n20 bW):=by
 have h:Tryz.f139={SlBodyF.n20 bW with name:= "slices.insertionSortCmpFunc[string]" }:=by kernel_rfl
 exact⟨ "slices.insertionSortCmpFunc[string]",by kernel_rfl,h▸Tryz.func139⟩
set_option maxRecDepth 100000 in
theorem shG21:Bears Tryz.prog (bW.f 21) (SlBodyF.n21 bW):=by
 have h:Tryz.f140={SlBodyF.n21 bW with name:= "slices.heapSortCmpFunc[string]" }:=by kernel_rfl
 exact⟨ "slices.heapSortCmpFunc[string]",by kernel_rfl,h▸Tryz.func140⟩
set_option maxRecDepth 100000 in
theorem shG22:Bears Tryz.prog (bW.f 22) (SlBodyF.n22 bW):=by
 have h:Tryz.f141={SlBodyF.n22 bW with name:= "slices.breakPatternsCmpFunc[string]" }:=by kernel_rfl
 exact⟨ "slices.breakPatternsCmpFunc[string]",by kernel_rfl,h▸Tryz.func141⟩
set_option maxRecDepth 100000 in
theorem shG23:Bears Tryz.prog (bW.f 23) (SlBodyF.n23 bW):=by
 have h:Tryz.f142={SlBodyF.n23 bW with name:= "slices.choosePivotCmpFunc[string]" }:=by kernel_rfl
 exact⟨ "slices.choosePivotCmpFunc[string]",by kernel_rfl,h▸Tryz.func142⟩
set_option maxRecDepth 100000 in
theorem shG24:Bears Tryz.prog (bW.f 24) (SlBodyF.n24 bW):=by
 have h:Tryz.f143={SlBodyF.n24 bW with name:= "slices.reverseRangeCmpFunc[string]" }:=by kernel_rfl
 exact⟨ "slices.reverseRangeCmpFunc[string]",by kernel_rfl,h▸Tryz.func143⟩
set_option maxRecDepth 100000 in
theorem shG25:Bears Tryz.prog (bW.f 25) (SlBodyF.n25 bW):=by
 have h:Tryz.f144={SlBodyF.n25 bW with name:= "slices.partialInsertionSortCmpFunc[string]" }:=by kernel_rfl
 exact⟨ "slices.partialInsertionSortCmpFunc[string]",by kernel_rfl,h▸Tryz.func144⟩
set_option maxRecDepth 100000 in
theorem shG26:Bears Tryz.prog (bW.f 26) (SlBodyF.n26 bW):=by
 have h:Tryz.f145={SlBodyF.n26 bW with name:= "slices.partitionEqualCmpFunc[string]" }:=by kernel_rfl
 exact⟨ "slices.partitionEqualCmpFunc[string]",by kernel_rfl,h▸Tryz.func145⟩
set_option maxRecDepth 100000 in
theorem shG27:Bears Tryz.prog (bW.f 27) (SlBodyF.n27 bW):=by
 have h:Tryz.f146={SlBodyF.n27 bW with name:= "slices.partitionCmpFunc[string]" }:=by kernel_rfl
 exact⟨ "slices.partitionCmpFunc[string]",by kernel_rfl,h▸Tryz.func146⟩
set_option maxRecDepth 100000 in
theorem shG28:Tryz.prog.funcs[bW.f 28]? =some (SlBodyF.n28 bW):=by
 have h:Tryz.f147=SlBodyF.n28 bW:=by kernel_rfl
 exact h▸Tryz.func147
set_option maxRecDepth 100000 in
theorem shG29:Tryz.prog.funcs[bW.f 29]? =some (SlBodyF.n29 bW):=by
 have h:Tryz.f148=SlBodyF.n29 bW:=by kernel_rfl
 exact h▸Tryz.func148
set_option maxRecDepth 100000 in
theorem shG46:Bears Tryz.prog (bW.f 46) (SlBodyF.n46 bW):=by
 have h:Tryz.f177={SlBodyF.n46 bW with name:= "slices.siftDownCmpFunc[string]" }:=by kernel_rfl
 exact⟨ "slices.siftDownCmpFunc[string]",by kernel_rfl,h▸Tryz.func177⟩
set_option maxRecDepth 100000 in
theorem shG47:Tryz.prog.funcs[bW.f 47]? =some (SlBodyF.n47 bW):=by
 have h:Tryz.f178=SlBodyF.n47 bW:=by kernel_rfl
 exact h▸Tryz.func178
set_option maxRecDepth 100000 in
theorem shG48:Tryz.prog.funcs[bW.f 48]? =some (SlBodyF.n48 bW):=by
 have h:Tryz.f179=SlBodyF.n48 bW:=by kernel_rfl
 exact h▸Tryz.func179
set_option maxRecDepth 100000 in
theorem shG49:Bears Tryz.prog (bW.f 49) (SlBodyF.n49 bW):=by
 have h:Tryz.f180={SlBodyF.n49 bW with name:= "slices.medianAdjacentCmpFunc[string]" }:=by kernel_rfl
 exact⟨ "slices.medianAdjacentCmpFunc[string]",by kernel_rfl,h▸Tryz.func180⟩
set_option maxRecDepth 100000 in
theorem shG50:Bears Tryz.prog (bW.f 50) (SlBodyF.n50 bW):=by
 have h:Tryz.f181={SlBodyF.n50 bW with name:= "slices.medianCmpFunc[string]" }:=by kernel_rfl
 exact⟨ "slices.medianCmpFunc[string]",by kernel_rfl,h▸Tryz.func181⟩
set_option maxRecDepth 100000 in
theorem shG57:Bears Tryz.prog (bW.f 57) (SlBodyF.n57 bW):=by
 have h:Tryz.f196={SlBodyF.n57 bW with name:= "slices.order2CmpFunc[string]" }:=by kernel_rfl
 exact⟨ "slices.order2CmpFunc[string]",by kernel_rfl,h▸Tryz.func196⟩
theorem aXy:SlLaysF.n6 Tryz.prog bW:={mixed:=by kernel_rfl,f6:=shG6,f14:=shG14,f15:=shG15,f20:=shG20,f21:=shG21,f22:=shG22,f23:=shG23,f24:=shG24,f25:=shG25,f26:=shG26,f27:=shG27,f28:=shG28,f29:=shG29,f46:=shG46,f47:=shG47,f48:=shG48,f49:=shG49,f50:=shG50,f57:=shG57,t0:=Tryz.underlying0,a0:=Tryz.isAgg0,z0:=Tryz.sizeOf0,v0:=Tryz.zeroValue0,t3:=Tryz.underlying3,a3:=Tryz.isAgg3,z3:=Tryz.sizeOf3,v3:=Tryz.zeroValue3,t4:=Tryz.underlying4,a4:=Tryz.isAgg4,z4:=Tryz.sizeOf4,v4:=Tryz.zeroValue4,t5:=Tryz.underlying5,a5:=Tryz.isAgg5,z5:=Tryz.sizeOf5,v5:=Tryz.zeroValue5,t9:=Tryz.underlying9,a9:=Tryz.isAgg9,z9:=Tryz.sizeOf9,v9:=Tryz.zeroValue9,t22:=Tryz.underlying22,a22:=Tryz.isAgg22,z22:=Tryz.sizeOf22,v22:=Tryz.zeroValue22,a24:=Tryz.isAgg9,z24:=Tryz.sizeOf9,t25:=Tryz.underlying136,a25:=Tryz.isAgg136,z25:=Tryz.sizeOf136,v25:=Tryz.zeroValue136,t39:=Tryz.underlying158,a39:=Tryz.isAgg158,z39:=Tryz.sizeOf158,v39:=Tryz.zeroValue158,t45:=Tryz.underlying177,a45:=Tryz.isAgg177,z45:=Tryz.sizeOf177,v45:=Tryz.zeroValue177,t46:=Tryz.underlying178,a46:=Tryz.isAgg178,z46:=Tryz.sizeOf178,v46:=Tryz.zeroValue178,t50:=Tryz.underlying182,a50:=Tryz.isAgg182,z50:=Tryz.sizeOf182,v50:=Tryz.zeroValue182,t53:=Tryz.underlying185,a53:=Tryz.isAgg185,z53:=Tryz.sizeOf185,v53:=Tryz.zeroValue185,t55:=Tryz.underlying166,a55:=Tryz.isAgg166,z55:=Tryz.sizeOf166,v55:=Tryz.zeroValue166,t66:=Tryz.underlying228,a66:=Tryz.isAgg228,z66:=Tryz.sizeOf228,v66:=Tryz.zeroValue228,t70:=Tryz.underlying155,a70:=Tryz.isAgg155,z70:=Tryz.sizeOf155,v70:=Tryz.zeroValue155,t76:=Tryz.underlying274,a76:=Tryz.isAgg274,z76:=Tryz.sizeOf274,v76:=Tryz.zeroValue274,t77:=Tryz.underlying275,a77:=Tryz.isAgg275,z77:=Tryz.sizeOf275,v77:=Tryz.zeroValue275}
def aGj:Go.Shelf.Ren:=⟨λn=>match n with |106=>84|194=>85|213=>115|265=>149|_=>0,λn=>match n with |0=>0|3=>3|4=>4|9=>9|31=>22|_=>0,λn=>match n with |_=>0⟩
set_option maxRecDepth 100000 in
theorem shS106:Tryz.prog.funcs[aGj.f 106]? =some (Body.n106 aGj):=by
 have h:Tryz.f84=Body.n106 aGj:=by kernel_rfl
 exact h▸Tryz.func84
set_option maxRecDepth 100000 in
theorem shS194:Tryz.prog.funcs[aGj.f 194]? =some (Body.n194 aGj):=by
 have h:Tryz.f85=Body.n194 aGj:=by kernel_rfl
 exact h▸Tryz.func85
set_option maxRecDepth 100000 in
theorem shS213:Tryz.prog.funcs[aGj.f 213]? =some (Body.n213 aGj):=by
 have h:Tryz.f115=Body.n213 aGj:=by kernel_rfl
 exact h▸Tryz.func115
set_option maxRecDepth 100000 in
theorem shS265:Tryz.prog.funcs[aGj.f 265]? =some (Body.n265 aGj):=by
 have h:Tryz.f149=Body.n265 aGj:=by kernel_rfl
 exact h▸Tryz.func149
theorem shLays106:Lays.n106 Tryz.prog aGj:={mixed:=by kernel_rfl,f106:=shS106,f213:=shS213,f265:=shS265,t3:=Tryz.underlying3,a3:=Tryz.isAgg3,z3:=Tryz.sizeOf3,v3:=Tryz.zeroValue3,t9:=Tryz.underlying9,a9:=Tryz.isAgg9,z9:=Tryz.sizeOf9,v9:=Tryz.zeroValue9}
theorem shLays194:Lays.n194 Tryz.prog aGj:={mixed:=by kernel_rfl,f194:=shS194,t0:=Tryz.underlying0,a0:=Tryz.isAgg0,z0:=Tryz.sizeOf0,v0:=Tryz.zeroValue0,t3:=Tryz.underlying3,a3:=Tryz.isAgg3,z3:=Tryz.sizeOf3,v3:=Tryz.zeroValue3,t4:=Tryz.underlying4,a4:=Tryz.isAgg4,z4:=Tryz.sizeOf4,v4:=Tryz.zeroValue4,t9:=Tryz.underlying9,a9:=Tryz.isAgg9,z9:=Tryz.sizeOf9,v9:=Tryz.zeroValue9,t31:=Tryz.underlying22,a31:=Tryz.isAgg22,z31:=Tryz.sizeOf22,v31:=Tryz.zeroValue22}
end Go.Proofs.YtibkjjklfhfipadGreatDoor
namespace Go.Proofs.YtibkjjklfhfipadGreatDoor.E
open Go.RowKit Go.OB Go.Lf Go.Sort
theorem Fe2w (b:List Str) (v0:Value) (r:List Str) (a:Fe2 b=some r) (O S:List Nat) (w:World) (H:Hd O w w S [.own Rp.str v0 9 b]):
    Calls Tryz.prog 83 ([v0,.func (.func 84) #[] #[]]:List Value).toArray w λe w'=>e= .returned (.tuple #[])/\Hd O w w' S [.own Rp.str v0 9 r]:=by
 unfold Fe2 at a;split at a;rename_i c;have d:=oI a;subst d;exact sortS_own aXy shLays106 H (i:=0) rfl c (enters_of Tryz.func84 (by kernel_rfl) rfl);cases a
theorem Felw (b:List Str) (v0:Value) (r:List Str) (a:Fel b=some r) (O S:List Nat) (w:World) (H:Hd O w w S [.own Rp.str v0 9 b]):
    Calls Tryz.prog 85 ([v0]:List Value).toArray w λe w'=> ∃u,e= .returned u/\Hd O w w' S [.own Rp.str u 9 r]:=by
 unfold Fel at a;split at a;rename_i c;have d:=oI a;subst d;exact aSy shLays194 H (i:=0) rfl c;cases a
end Go.Proofs.YtibkjjklfhfipadGreatDoor.E
