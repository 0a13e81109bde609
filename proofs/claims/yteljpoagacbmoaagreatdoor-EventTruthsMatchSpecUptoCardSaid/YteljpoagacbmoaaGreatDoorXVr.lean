/- Laws that the claim stands on; no condition beyond those stated. -/
import Derived.Test.YteljpoagacbmoaaGreatDoorXVp
import Derived.Sort.OwnSorted
import Derived.Shelf.SlSortCmp.NoneTotal
import Derived.Shelf.Small.Strs
import Derived.Shelf.Slices.CompactS
import Derived.Test.YteljpoagacbmoaaGreatDoorRows
import Derived.Shelf.SlLaysF
import Derived.Shelf.Lays
namespace Go.Lf
open Go.RowKit Go.OB Go.Sort Go.Shelf Go.Proofs
def cfS (x y:Str):Int:=Lib.compareBytes x y
theorem ltS: ∀x y:Str,ltOf cfS x y=slt x y
 | [],[]=>rfl
 | [],_::_=>rfl
 |_::_,[]=>rfl
 |a::x,b::y=>by
  have h:=ltS x y;rw [aEs,<-h];unfold ltOf cfS;rw [Lib.compareBytes]
  by_cases c:a<b
  ·simp [c]
  ·by_cases d:b<a
   ·have f: ¬a=b:=λe=>c (e▸d)
    simp [c,d,f]
   ·have f:a=b:=(u8eq a b).2 (by have:=mt (u8lt a b).2 c;have:=mt (u8lt b a).2 d;omega);subst f;simp [c]
theorem swoS:SWO (ltOf cfS) where
 irrefl x:=by rw [ltS];exact uQ x
 trans x y z h1 h2:=by rw [ltS]at *;exact sF x y z h1 h2
 ntrans x y z h1 h2:=by rw [ltS]at *;exact aKe x y z h1 h2
variable {P:Program}{ρ ρ':Ren}{O S:List Nat}{w0 w:World}{l:List Th}{i e:Nat}{v:Value}{xl:List Str}
theorem uO: ∀{l:List Str}{F:Nat->Prop}{w:World}{cs:List Value},rows Rp.str F w cs l↔cs=l.map encStr
 | [],_,_,cs=>Iff.rfl
 |x::l,F,w,cs=>by
  constructor
  ·rintro⟨c,d,rfl,a,b⟩;have a:c=[.string (bs x)]:=a;rw [a,uO.1 b];rfl
  ·rintro rfl;exact⟨[.string (bs x)],l.map encStr,rfl,rfl,uO.2 rfl⟩
theorem cmpS (a:Lays.n106 P ρ')(W:World)(x y:Str):Calls P (ρ'.f 106) #[encStr x,encStr y] W λe w'=>e= .returned (.int .i64 (cfS x y))/\w'=W:=Any.strings_Compare a (bs x) (bs y) W
theorem sortS_own (L:SlLaysF.n6 P ρ) (G:Lays.n106 P ρ') (H:Hd O w0 w S l) (hi:l[i]? =some (.own Rp.str v e xl)) (I:xl.length<4611686018427387904)
  (J: ∀args w,(callFunc (ρ'.f 106) args).run P w= .ok (.enter (ρ'.f 106) args) w):
  Calls P (ρ.f 6) #[v,.func (.func (ρ'.f 106)) #[] #[]] w λr w'=>r= .returned (.tuple #[])/\Hd O w0 w' S (l.set i (.own Rp.str v e (aCy xl))):=by
 obtain⟨_,u,K⟩:=H.V hi;have u:=uO.1 u;subst u;have a:=aVt xl;rcases K.2 with ⟨rfl,M⟩|⟨g,cap,s,rfl,_,o,z,A,B,p⟩
 ·have Q:xl=[]:=List.eq_nil_of_length_eq_zero M;subst Q;refine(AnyF.slices_SortFunc_none (P:=P) (ρ:=ρ) {L with} none 0 (.func (.func (ρ'.f 106)) #[] #[]) w).mono λr w' ⟨c,d⟩=>⟨c,?_⟩
  subst d;have R:aCy []=[]:=List.eq_nil_of_length_eq_zero a;have T:l.set i (.own Rp.str (.slice none 0 0) e [])=l:=by
   apply List.ext_getElem?;intro j;rw [List.getElem?_set]
   by_cases D:i=j
   ·subst D;rw [if_pos rfl,if_pos (gS.1 hi).1];exact hi.symm
   ·rw [if_neg D]
  rw [R,T];exact H
 ·have X:Holds encStr w g 0 xl.toArray:=holds_of_block o (by have h:s.toList.take (xl.length*1)=xl.map encStr:=p;rw [Nat.mul_one]at h;exact h);have q:=Any.slices_SortFunc_total L encStr (λ_=>rfl) cfS swoS (ρ'.f 106) #[] g 0 cap xl.toArray w J (λ_ os _ _ x y=>(cmpS G _ x y).mono λ_ _ ⟨c,d⟩=>⟨c,0, #[],by rw [d,grow_empty];rfl⟩) X (Array.getElem?_eq_some_iff.1 o).1 (by simpa using I) (λx y c d=>by rw [ltS]at c d;exact aFp x y c d);have Y:(λx y:_=> !ltOf cfS y x)=λx y=> !slt y x:=by funext x y;rw [ltS]
  rw [Y]at q;refine q.mono λr w' ⟨c,n,os,d⟩=>⟨c,?_⟩
  subst d;have t:=grownBy_sorted (w:=w) (g:=g) (n:=n) (os:=os) (aCy xl).toArray;have E:=ownsRow_sorted (base:=0) (n:=n) (os:=os) (ts:=aCy xl) a (Nat.zero_le _) o z A (show s.size=cap*1 from B);refine H.turn hi ⟨t.os,t.tape,t.output,t.size,λk hk C=>t.block k hk (λh=>C ?_)⟩ (λ_=>⟨_,uO.2 rfl,?_⟩) ?_ (aAd _)
  ·simp [Th.blocks,ob,kU]at h⊢;exact h
  ·rw [a];exact E
  ·intro b F;exact⟨.inl F,by have:=aAv E b F;exact this.2⟩
theorem aSc (L:Lays.n194 P ρ) (H:Hd O w0 w S l) (hi:l[i]? =some (.own Rp.str v e xl)) (N:xl.length<=9223372036854775807):
  Calls P (ρ.f 194) #[v] w λr w'=> ∃u,r= .returned u/\Hd O w0 w' S (l.set i (.own Rp.str u e (qL xl))):=by
 obtain⟨_,B,Q⟩:=H.V hi;have B:=uO.1 B;subst B;have a:=cmpS1_len xl;have same: ∀u,l[i]? =some u->l.set i u=l:=by
  intro u R;apply List.ext_getElem?;intro j;rw [List.getElem?_set]
  by_cases J:i=j
  ·subst J;rw [if_pos rfl,if_pos (gS.1 hi).1];exact R.symm
  ·rw [if_neg J]
 rcases Q.2 with ⟨rfl,T⟩|⟨g,cap,p,rfl,_,s,c,C,D,d⟩
 ·have Y:xl=[]:=List.eq_nil_of_length_eq_zero T;subst Y;refine(Any.slices_Compact_string_empty L none 0 w).mono λr w' ⟨E,F⟩=>⟨_,E,?_⟩
  subst F;have e1:qL []=[]:=List.eq_nil_of_length_eq_zero (by simpa using a);rw [e1,same _ hi];exact H
 ·have hH:Holds encStr w g 0 xl.toArray:=holds_of_block s (by have h:p.toList.take (xl.length*1)=xl.map encStr:=d;rw [Nat.mul_one]at h;exact h);refine(Any.slices_Compact_string L g 0 cap xl w hH N c).mono λr w' ⟨E,q,F⟩=>⟨_,E,?_⟩
  subst F;have G:(qL xl++List.replicate (xl.length-(qL xl).length) []).length=xl.length:=by simp;omega
  have o:=grownBy_sorted (w:=w) (g:=g) (n:=q) (os:= #[]) (qL xl++List.replicate (xl.length-(qL xl).length) []).toArray;have K:=ownsRow_sorted (base:=0) (n:=q) (os:= #[]) (ts:=qL xl++List.replicate (xl.length-(qL xl).length) []) G (Nat.zero_le _) s c C (show p.size=cap*1 from D);rw [grow_empty]at o K;have t:(putRow encStr (Sort.ahead w q) g 0 (Lib.compact xl++List.replicate (xl.length-(Lib.compact xl).length) []).toArray).ownsRow 0 e 1 (.slice (some ⟨g,0,none⟩) (qL xl).length cap) (qL xl).length ((qL xl).map encStr):=by
   obtain⟨-,x⟩:=K;rcases x with ⟨x,_⟩|⟨_,_,y,x,h4,h5,_,h7,h8,h9⟩
   ·cases x
   ·cases x
    refine⟨by simp,.inr ⟨g,cap,y,rfl,h4,h5,Nat.le_trans a c,h7,h8,?_⟩⟩;have z:=congrArg (List.take ((qL xl).length*1)) h9;rw [List.take_take,Nat.min_eq_left (by omega)]at z;rw [z,List.map_append,Nat.mul_one,List.take_left' (by simp)]
  refine H.turn hi ⟨o.os,o.tape,o.output,o.size,λk hk I=>o.block k hk (λh=>I ?_)⟩ (λ_=>⟨_,uO.2 rfl,?_⟩) ?_ (aAd _)
  ·simp [Th.blocks,ob,kU]at h⊢;exact h
  ·exact t
  ·intro b A;have A:b∈ob (.slice (some ⟨g,0,none⟩) (qL xl).length cap):=A;refine⟨.inl (by simpa [Th.blocks,ob,kU]using A),by have:=aAv t b A;exact this.2⟩
end Go.Lf
namespace Go.Proofs.YteljpoagacbmoaaGreatDoor
open Go Go.Shelf Go.Proofs
def bU:Go.Shelf.Ren:=⟨λn=>match n with |6=>180|14=>217|15=>218|20=>248|21=>249|22=>250|23=>251|24=>252|25=>253|26=>254|27=>255|28=>256|29=>257|46=>275|47=>276|48=>277|49=>278|50=>279|57=>290|_=>0,λn=>match n with |0=>0|3=>3|4=>4|5=>5|9=>9|22=>25|24=>9|25=>265|39=>304|45=>326|46=>327|50=>103|53=>333|55=>282|66=>347|70=>290|76=>359|77=>360|_=>0,λn=>match n with |_=>0⟩
set_option maxRecDepth 100000 in
theorem shG6:Bears Tryz.prog (bU.f 6) (SlBodyF.n6 bU):=by
 have h:Tryz.f180={SlBodyF.n6 bU with name:= "slices.SortFunc[[]string,string]" }:=by kernel_rfl
 exact⟨ "slices.SortFunc[[]string,string]",by kernel_rfl,h▸Tryz.func180⟩
set_option maxRecDepth 100000 in
theorem shG14:Bears Tryz.prog (bU.f 14) (SlBodyF.n14 bU):=by
 have h:Tryz.f217={SlBodyF.n14 bU with name:= "slices.pdqsortCmpFunc[string]" }:=by kernel_rfl
 exact⟨ "slices.pdqsortCmpFunc[string]",by kernel_rfl,h▸Tryz.func217⟩
set_option maxRecDepth 100000 in
theorem shG15:Tryz.prog.funcs[bU.f 15]? =some (SlBodyF.n15 bU):=by
 have h:Tryz.f218=SlBodyF.n15 bU:=by kernel_rfl
 exact h▸Tryz.func218
set_option maxRecDepth 100000 in
theorem shG20:Bears Tryz.prog (bU.f 20) (SlBodyF.n20 bU):=by
 have h:Tryz.f248={SlBodyF.n20 bU with name:= "slices.insertionSortCmpFunc[string]" }:=by kernel_rfl
 exact⟨ "slices.insertionSortCmpFunc[string]",by kernel_rfl,h▸Tryz.func248⟩
set_option maxRecDepth 100000 in
theorem shG21:Bears Tryz.prog (bU.f 21) (SlBodyF.n21 bU):=by
 have h:Tryz.f249={SlBodyF.n21 bU with name:= "slices.heapSortCmpFunc[string]" }:=by kernel_rfl
 exact⟨ "slices.heapSortCmpFunc[string]",by kernel_rfl,h▸Tryz.func249⟩
set_option maxRecDepth 100000 in
theorem shG22:Bears Tryz.prog (bU.f 22) (SlBodyF.n22 bU):=by
 have h:Tryz.f250={SlBodyF.n22 bU with name:= "slices.breakPatternsCmpFunc[string]" }:=by kernel_rfl
 exact⟨ "slices.breakPatternsCmpFunc[string]",by kernel_rfl,h▸Tryz.func250⟩
set_option maxRecDepth 100000 in
theorem shG23:Bears Tryz.prog (bU.f 23) (SlBodyF.n23 bU):=by
 have h:Tryz.f251={SlBodyF.n23 bU with name:= "slices.choosePivotCmpFunc[string]" }:=by kernel_rfl
 exact⟨ "slices.choosePivotCmpFunc[string]",by kernel_rfl,h▸Tryz.func251⟩
set_option maxRecDepth 100000 in
theorem shG24:Bears Tryz.prog (bU.f 24) (SlBodyF.n24 bU):=by
 have h:Tryz.f252={SlBodyF.n24 bU with name:= "slices.reverseRangeCmpFunc[string]" }:=by kernel_rfl
 exact⟨ "slices.reverseRangeCmpFunc[string]",by kernel_rfl,h▸Tryz.func252⟩
set_option maxRecDepth 100000 in
theorem shG25:Bears Tryz.prog (bU.f 25) (SlBodyF.n25 bU):=by
 have h:Tryz.f253={SlBodyF.n25 bU with name:= "slices.partialInsertionSortCmpFunc[string]" }:=by kernel_rfl
 exact⟨ "slices.partialInsertionSortCmpFunc[string]",by kernel_rfl,h▸Tryz.func253⟩
set_option maxRecDepth 100000 in
theorem shG26:Bears Tryz.prog (bU.f 26) (SlBodyF.n26 bU):=by
 have h:Tryz.f254={SlBodyF.n26 bU with name:= "slices.partitionEqualCmpFunc[string]" }:=by kernel_rfl
 exact⟨ "slices.partitionEqualCmpFunc[string]",by kernel_rfl,h▸Tryz.func254⟩
set_option maxRecDepth 100000 in
theorem shG27:Bears Tryz.prog (bU.f 27) (SlBodyF.n27 bU):=by
 have h:Tryz.f255={SlBodyF.n27 bU with name:= "slices.partitionCmpFunc[string]" }:=by kernel_rfl
 exact⟨ "slices.partitionCmpFunc[string]",by kernel_rfl,h▸Tryz.func255⟩
set_option maxRecDepth 100000 in
theorem shG28:Tryz.prog.funcs[bU.f 28]? =some (SlBodyF.n28 bU):=by
 have h:Tryz.f256=SlBodyF.n28 bU:=by kernel_rfl
 exact h▸Tryz.func256
set_option maxRecDepth 100000 in
theorem shG29:Tryz.prog.funcs[bU.f 29]? =some (SlBodyF.n29 bU):=by
 have h:Tryz.f257=SlBodyF.n29 bU:=by kernel_rfl
 exact h▸Tryz.func257
set_option maxRecDepth 100000 in
theorem shG46:Bears Tryz.prog (bU.f 46) (SlBodyF.n46 bU):=by
 have h:Tryz.f275={SlBodyF.n46 bU with name:= "slices.siftDownCmpFunc[string]" }:=by kernel_rfl
 exact⟨ "slices.siftDownCmpFunc[string]",by kernel_rfl,h▸Tryz.func275⟩
set_option maxRecDepth 100000 in
theorem shG47:Tryz.prog.funcs[bU.f 47]? =some (SlBodyF.n47 bU):=by
 have h:Tryz.f276=SlBodyF.n47 bU:=by kernel_rfl
 exact h▸Tryz.func276
set_option maxRecDepth 100000 in
theorem shG48:Tryz.prog.funcs[bU.f 48]? =some (SlBodyF.n48 bU):=by
 have h:Tryz.f277=SlBodyF.n48 bU:=by kernel_rfl
 exact h▸Tryz.func277
set_option maxRecDepth 100000 in
theorem shG49:Bears Tryz.prog (bU.f 49) (SlBodyF.n49 bU):=by
 have h:Tryz.f278={SlBodyF.n49 bU with name:= "slices.medianAdjacentCmpFunc[string]" }:=by kernel_rfl
 exact⟨ "slices.medianAdjacentCmpFunc[string]",by kernel_rfl,h▸Tryz.func278⟩
set_option maxRecDepth 100000 in
theorem shG50:Bears Tryz.prog (bU.f 50) (SlBodyF.n50 bU):=by
 have h:Tryz.f279={SlBodyF.n50 bU with name:= "slices.medianCmpFunc[string]" }:=by kernel_rfl
 exact⟨ "slices.medianCmpFunc[string]",by kernel_rfl,h▸Tryz.func279⟩
set_option maxRecDepth 100000 in
theorem shG57:Bears Tryz.prog (bU.f 57) (SlBodyF.n57 bU):=by
 have h:Tryz.f290={SlBodyF.n57 bU with name:= "slices.order2CmpFunc[string]" }:=by kernel_rfl
 exact⟨ "slices.order2CmpFunc[string]",by kernel_rfl,h▸Tryz.func290⟩
theorem aYs:SlLaysF.n6 Tryz.prog bU:={mixed:=by kernel_rfl,f6:=shG6,f14:=shG14,f15:=shG15,f20:=shG20,f21:=shG21,f22:=shG22,f23:=shG23,f24:=shG24,f25:=shG25,f26:=shG26,f27:=shG27,f28:=shG28,f29:=shG29,f46:=shG46,f47:=shG47,f48:=shG48,f49:=shG49,f50:=shG50,f57:=shG57,t0:=Tryz.underlying0,a0:=Tryz.isAgg0,z0:=Tryz.sizeOf0,v0:=Tryz.zeroValue0,t3:=Tryz.underlying3,a3:=Tryz.isAgg3,z3:=Tryz.sizeOf3,v3:=Tryz.zeroValue3,t4:=Tryz.underlying4,a4:=Tryz.isAgg4,z4:=Tryz.sizeOf4,v4:=Tryz.zeroValue4,t5:=Tryz.underlying5,a5:=Tryz.isAgg5,z5:=Tryz.sizeOf5,v5:=Tryz.zeroValue5,t9:=Tryz.underlying9,a9:=Tryz.isAgg9,z9:=Tryz.sizeOf9,v9:=Tryz.zeroValue9,t22:=Tryz.underlying25,a22:=Tryz.isAgg25,z22:=Tryz.sizeOf25,v22:=Tryz.zeroValue25,a24:=Tryz.isAgg9,z24:=Tryz.sizeOf9,t25:=Tryz.underlying265,a25:=Tryz.isAgg265,z25:=Tryz.sizeOf265,v25:=Tryz.zeroValue265,t39:=Tryz.underlying304,a39:=Tryz.isAgg304,z39:=Tryz.sizeOf304,v39:=Tryz.zeroValue304,t45:=Tryz.underlying326,a45:=Tryz.isAgg326,z45:=Tryz.sizeOf326,v45:=Tryz.zeroValue326,t46:=Tryz.underlying327,a46:=Tryz.isAgg327,z46:=Tryz.sizeOf327,v46:=Tryz.zeroValue327,t50:=Tryz.underlying103,a50:=Tryz.isAgg103,z50:=Tryz.sizeOf103,v50:=Tryz.zeroValue103,t53:=Tryz.underlying333,a53:=Tryz.isAgg333,z53:=Tryz.sizeOf333,v53:=Tryz.zeroValue333,t55:=Tryz.underlying282,a55:=Tryz.isAgg282,z55:=Tryz.sizeOf282,v55:=Tryz.zeroValue282,t66:=Tryz.underlying347,a66:=Tryz.isAgg347,z66:=Tryz.sizeOf347,v66:=Tryz.zeroValue347,t70:=Tryz.underlying290,a70:=Tryz.isAgg290,z70:=Tryz.sizeOf290,v70:=Tryz.zeroValue290,t76:=Tryz.underlying359,a76:=Tryz.isAgg359,z76:=Tryz.sizeOf359,v76:=Tryz.zeroValue359,t77:=Tryz.underlying360,a77:=Tryz.isAgg360,z77:=Tryz.sizeOf360,v77:=Tryz.zeroValue360}
def aFg:Go.Shelf.Ren:=⟨λn=>match n with |106=>181|194=>182|213=>219|265=>258|_=>0,λn=>match n with |0=>0|3=>3|4=>4|9=>9|31=>25|_=>0,λn=>match n with |_=>0⟩
set_option maxRecDepth 100000 in
theorem shS106:Tryz.prog.funcs[aFg.f 106]? =some (Body.n106 aFg):=by
 have h:Tryz.f181=Body.n106 aFg:=by kernel_rfl
 exact h▸Tryz.func181
set_option maxRecDepth 100000 in
theorem shS194:Tryz.prog.funcs[aFg.f 194]? =some (Body.n194 aFg):=by
 have h:Tryz.f182=Body.n194 aFg:=by kernel_rfl
 exact h▸Tryz.func182
set_option maxRecDepth 100000 in
theorem shS213:Tryz.prog.funcs[aFg.f 213]? =some (Body.n213 aFg):=by
 have h:Tryz.f219=Body.n213 aFg:=by kernel_rfl
 exact h▸Tryz.func219
set_option maxRecDepth 100000 in
theorem shS265:Tryz.prog.funcs[aFg.f 265]? =some (Body.n265 aFg):=by
 have h:Tryz.f258=Body.n265 aFg:=by kernel_rfl
 exact h▸Tryz.func258
theorem shLays106:Lays.n106 Tryz.prog aFg:={mixed:=by kernel_rfl,f106:=shS106,f213:=shS213,f265:=shS265,t3:=Tryz.underlying3,a3:=Tryz.isAgg3,z3:=Tryz.sizeOf3,v3:=Tryz.zeroValue3,t9:=Tryz.underlying9,a9:=Tryz.isAgg9,z9:=Tryz.sizeOf9,v9:=Tryz.zeroValue9}
theorem shLays194:Lays.n194 Tryz.prog aFg:={mixed:=by kernel_rfl,f194:=shS194,t0:=Tryz.underlying0,a0:=Tryz.isAgg0,z0:=Tryz.sizeOf0,v0:=Tryz.zeroValue0,t3:=Tryz.underlying3,a3:=Tryz.isAgg3,z3:=Tryz.sizeOf3,v3:=Tryz.zeroValue3,t4:=Tryz.underlying4,a4:=Tryz.isAgg4,z4:=Tryz.sizeOf4,v4:=Tryz.zeroValue4,t9:=Tryz.underlying9,a9:=Tryz.isAgg9,z9:=Tryz.sizeOf9,v9:=Tryz.zeroValue9,t31:=Tryz.underlying25,a31:=Tryz.isAgg25,z31:=Tryz.sizeOf25,v31:=Tryz.zeroValue25}
end Go.Proofs.YteljpoagacbmoaaGreatDoor
namespace Go.Proofs.YteljpoagacbmoaaGreatDoor.E
open Go.RowKit Go.OB Go.Lf Go.Sort
theorem Fflw (b:List Str) (v0:Value) (r:List Str) (a:Ffl b=some r) (O S:List Nat) (w:World) (H:Hd O w w S [.own Rp.str v0 9 b]):
    Calls Tryz.prog 180 ([v0,.func (.func 181) #[] #[]]:List Value).toArray w λe w'=>e= .returned (.tuple #[])/\Hd O w w' S [.own Rp.str v0 9 r]:=by
 unfold Ffl at a;split at a;rename_i c;have d:=oI a;subst d;exact sortS_own aYs shLays106 H (i:=0) rfl c (enters_of Tryz.func181 (by kernel_rfl) rfl);cases a
theorem Fgew (b:List Str) (v0:Value) (r:List Str) (a:Fge b=some r) (O S:List Nat) (w:World) (H:Hd O w w S [.own Rp.str v0 9 b]):
    Calls Tryz.prog 182 ([v0]:List Value).toArray w λe w'=> ∃u,e= .returned u/\Hd O w w' S [.own Rp.str u 9 r]:=by
 unfold Fge at a;split at a;rename_i c;have d:=oI a;subst d;exact aSc shLays194 H (i:=0) rfl c;cases a
end Go.Proofs.YteljpoagacbmoaaGreatDoor.E
