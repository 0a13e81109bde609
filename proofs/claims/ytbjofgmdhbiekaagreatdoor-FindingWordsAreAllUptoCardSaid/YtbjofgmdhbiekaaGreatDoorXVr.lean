/- Laws that the claim stands on; no condition beyond those stated. -/
import Derived.Test.YtbjofgmdhbiekaaGreatDoorXVp
import Derived.Sort.OwnSorted
import Derived.Shelf.SlSortCmp.NoneTotal
import Derived.Shelf.Small.Strs
import Derived.Shelf.Slices.CompactS
import Derived.Test.YtbjofgmdhbiekaaGreatDoorRows
import Derived.Shelf.SlLaysF
import Derived.Shelf.Lays
namespace Go.Lf
open Go.RowKit Go.OB Go.Sort Go.Shelf Go.Proofs
def cfS (x y:Str):Int:=Lib.compareBytes x y
theorem ltS: ∀x y:Str,ltOf cfS x y=slt x y
 | [],[]=>rfl
 | [],_::_=>rfl
 |_::_,[]=>rfl
 |a::x,b::y=>by
  have f:=ltS x y;rw [aEk,<-f];unfold ltOf cfS;rw [Lib.compareBytes]
  by_cases h1:a<b
  ·simp [h1]
  ·by_cases c:b<a
   ·have d: ¬a=b:=λe=>h1 (e▸c)
    simp [h1,c,d]
   ·have d:a=b:=(u8eq a b).2 (by have:=mt (u8lt a b).2 h1;have:=mt (u8lt b a).2 c;omega);subst d;simp [h1]
theorem swoS:SWO (ltOf cfS) where
 irrefl x:=by rw [ltS];exact aKq x
 trans x y z h1 h2:=by rw [ltS]at *;exact aFt x y z h1 h2
 ntrans x y z h1 h2:=by rw [ltS]at *;exact aVi x y z h1 h2
variable {P:Program}{ρ ρ':Ren}{O S:List Nat}{w0 w:World}{l:List Th}{i e:Nat}{v:Value}{xl:List Str}
theorem tC: ∀{l:List Str}{F:Nat->Prop}{w:World}{cs:List Value},rows Rp.str F w cs l↔cs=l.map encStr
 | [],_,_,cs=>Iff.rfl
 |x::l,F,w,cs=>by
  constructor
  ·rintro⟨c,d,rfl,h1,a⟩;have h1:c=[.string (bs x)]:=h1;rw [h1,tC.1 a];rfl
  ·rintro rfl;exact⟨[.string (bs x)],l.map encStr,rfl,rfl,tC.2 rfl⟩
theorem cmpS (a:Lays.n106 P ρ')(W:World)(x y:Str):Calls P (ρ'.f 106) #[encStr x,encStr y] W λe w'=>e= .returned (.int .i64 (cfS x y))/\w'=W:=Any.strings_Compare a (bs x) (bs y) W
theorem sortS_own (L:SlLaysF.n6 P ρ) (F:Lays.n106 P ρ') (H:Hd O w0 w S l) (hi:l[i]? =some (.own Rp.str v e xl)) (G:xl.length<4611686018427387904)
  (I: ∀args w,(callFunc (ρ'.f 106) args).run P w= .ok (.enter (ρ'.f 106) args) w):
  Calls P (ρ.f 6) #[v,.func (.func (ρ'.f 106)) #[] #[]] w λr w'=>r= .returned (.tuple #[])/\Hd O w0 w' S (l.set i (.own Rp.str v e (srtS xl))):=by
 obtain⟨_,t,J⟩:=H.V hi;have t:=tC.1 t;subst t;have a:=srtS_len xl;rcases J.2 with ⟨rfl,K⟩|⟨g,cap,p,rfl,_,d,u,z,A,o⟩
 ·have N:xl=[]:=List.eq_nil_of_length_eq_zero K;subst N;refine(AnyF.slices_SortFunc_none (P:=P) (ρ:=ρ) {L with} none 0 (.func (.func (ρ'.f 106)) #[] #[]) w).mono λr w' ⟨h1,c⟩=>⟨h1,?_⟩
  subst c;have Q:srtS []=[]:=List.eq_nil_of_length_eq_zero a;have R:l.set i (.own Rp.str (.slice none 0 0) e [])=l:=by
   apply List.ext_getElem?;intro j;rw [List.getElem?_set]
   by_cases C:i=j
   ·subst C;rw [if_pos rfl,if_pos (gS.1 hi).1];exact hi.symm
   ·rw [if_neg C]
  rw [Q,R];exact H
 ·have hH:Holds encStr w g 0 xl.toArray:=holds_of_block d (by have h:p.toList.take (xl.length*1)=xl.map encStr:=o;rw [Nat.mul_one]at h;exact h);have q:=Any.slices_SortFunc_total L encStr (λ_=>rfl) cfS swoS (ρ'.f 106) #[] g 0 cap xl.toArray w I (λ_ os _ _ x y=>(cmpS F _ x y).mono λ_ _ ⟨h1,c⟩=>⟨h1,0, #[],by rw [c,grow_empty];rfl⟩) hH (Array.getElem?_eq_some_iff.1 d).1 (by simpa using G) (λx y h1 c=>by rw [ltS]at h1 c;exact aOp x y h1 c);have T:(λx y:Str=> !ltOf cfS y x)=λx y=> !slt y x:=by funext x y;rw [ltS]
  rw [T]at q;refine q.mono λr w' ⟨h1,n,os,c⟩=>⟨h1,?_⟩
  subst c;have s:=grownBy_sorted (w:=w) (g:=g) (n:=n) (os:=os) (srtS xl).toArray;have D:=ownsRow_sorted (base:=0) (n:=n) (os:=os) (ts:=srtS xl) a (Nat.zero_le _) d u z (show p.size=cap*1 from A);refine H.turn hi ⟨s.os,s.tape,s.output,s.size,λk hk B=>s.block k hk (λh=>B ?_)⟩ (λ_=>⟨_,tC.2 rfl,?_⟩) ?_ (aHa _)
  ·simp [Th.blocks,ob,nY]at h⊢;exact h
  ·rw [a];exact D
  ·intro b E;exact⟨.inl E,by have:=xY D b E;exact this.2⟩
theorem aQe (L:Lays.n194 P ρ) (H:Hd O w0 w S l) (hi:l[i]? =some (.own Rp.str v e xl)) (K:xl.length<=9223372036854775807):
  Calls P (ρ.f 194) #[v] w λr w'=> ∃u,r= .returned u/\Hd O w0 w' S (l.set i (.own Rp.str u e (sO xl))):=by
 obtain⟨_,A,M⟩:=H.V hi;have A:=tC.1 A;subst A;have a:=cmpS1_len xl;have same: ∀u,l[i]? =some u->l.set i u=l:=by
  intro u N;apply List.ext_getElem?;intro j;rw [List.getElem?_set]
  by_cases G:i=j
  ·subst G;rw [if_pos rfl,if_pos (gS.1 hi).1];exact N.symm
  ·rw [if_neg G]
 rcases M.2 with ⟨rfl,Q⟩|⟨g,cap,o,rfl,_,p,c,B,C,d⟩
 ·have T:xl=[]:=List.eq_nil_of_length_eq_zero Q;subst T;refine(Any.slices_Compact_string_empty L none 0 w).mono λr w' ⟨h1,D⟩=>⟨_,h1,?_⟩
  subst D;have X:sO []=[]:=List.eq_nil_of_length_eq_zero (by simpa using a);rw [X,same _ hi];exact H
 ·have hH:Holds encStr w g 0 xl.toArray:=holds_of_block p (by have h:o.toList.take (xl.length*1)=xl.map encStr:=d;rw [Nat.mul_one]at h;exact h);refine(Any.slices_Compact_string L g 0 cap xl w hH K c).mono λr w' ⟨h1,q,D⟩=>⟨_,h1,?_⟩
  subst D;have E:(sO xl++List.replicate (xl.length-(sO xl).length) []).length=xl.length:=by simp;omega
  have m:=grownBy_sorted (w:=w) (g:=g) (n:=q) (os:= #[]) (sO xl++List.replicate (xl.length-(sO xl).length) []).toArray;have I:=ownsRow_sorted (base:=0) (n:=q) (os:= #[]) (ts:=sO xl++List.replicate (xl.length-(sO xl).length) []) E (Nat.zero_le _) p c B (show o.size=cap*1 from C);rw [grow_empty]at m I;have s:(putRow encStr (Sort.ahead w q) g 0 (Lib.compact xl++List.replicate (xl.length-(Lib.compact xl).length) []).toArray).ownsRow 0 e 1 (.slice (some ⟨g,0,none⟩) (sO xl).length cap) (sO xl).length ((sO xl).map encStr):=by
   obtain⟨-,t⟩:=I;rcases t with ⟨t,_⟩|⟨_,_,x,t,Y,h5,_,h7,h8,h9⟩
   ·cases t
   ·cases t
    refine⟨by simp,.inr ⟨g,cap,x,rfl,Y,h5,Nat.le_trans a c,h7,h8,?_⟩⟩;have y:=congrArg (List.take ((sO xl).length*1)) h9;rw [List.take_take,Nat.min_eq_left (by omega)]at y;rw [y,List.map_append,Nat.mul_one,List.take_left' (by simp)]
  refine H.turn hi ⟨m.os,m.tape,m.output,m.size,λk hk F=>m.block k hk (λh=>F ?_)⟩ (λ_=>⟨_,tC.2 rfl,?_⟩) ?_ (aHa _)
  ·simp [Th.blocks,ob,nY]at h⊢;exact h
  ·exact s
  ·intro b z;have z:b∈ob (.slice (some ⟨g,0,none⟩) (sO xl).length cap):=z;refine⟨.inl (by simpa [Th.blocks,ob,nY]using z),by have:=xY s b z;exact this.2⟩
end Go.Lf
namespace Go.Proofs.YtbjofgmdhbiekaaGreatDoor
open Go Go.Shelf Go.Proofs
def cO:Go.Shelf.Ren:=⟨λn=>match n with |6=>253|14=>284|15=>110|20=>298|21=>299|22=>300|23=>301|24=>302|25=>303|26=>304|27=>305|28=>177|29=>178|46=>326|47=>232|48=>233|49=>327|50=>328|57=>331|_=>0,λn=>match n with |0=>0|3=>3|4=>4|5=>5|9=>9|22=>29|24=>9|25=>104|39=>191|45=>241|46=>242|50=>226|53=>248|55=>250|66=>293|70=>297|76=>325|77=>122|_=>0,λn=>match n with |_=>0⟩
set_option maxRecDepth 100000 in
theorem shG6:Bears Tryz.prog (cO.f 6) (SlBodyF.n6 cO):=by
 have h:Tryz.f253={SlBodyF.n6 cO with name:= "slices.SortFunc[[]string,string]" }:=by kernel_rfl
 exact⟨ "slices.SortFunc[[]string,string]",by kernel_rfl,h▸Tryz.func253⟩
set_option maxRecDepth 100000 in
theorem shG14:Bears Tryz.prog (cO.f 14) (SlBodyF.n14 cO):=by
 have h:Tryz.f284={SlBodyF.n14 cO with name:= "slices.pdqsortCmpFunc[string]" }:=by kernel_rfl
 exact⟨ "slices.pdqsortCmpFunc[string]",by kernel_rfl,h▸Tryz.func284⟩
set_option maxRecDepth 100000 in
theorem shG15:Tryz.prog.funcs[cO.f 15]? =some (SlBodyF.n15 cO):=by
 have h:Tryz.f110=SlBodyF.n15 cO:=by kernel_rfl
 exact h▸Tryz.func110
set_option maxRecDepth 100000 in
theorem shG20:Bears Tryz.prog (cO.f 20) (SlBodyF.n20 cO):=by
 have h:Tryz.f298={SlBodyF.n20 cO with name:= "slices.insertionSortCmpFunc[string]" }:=by kernel_rfl
 exact⟨ "slices.insertionSortCmpFunc[string]",by kernel_rfl,h▸Tryz.func298⟩
set_option maxRecDepth 100000 in
theorem shG21:Bears Tryz.prog (cO.f 21) (SlBodyF.n21 cO):=by
 have h:Tryz.f299={SlBodyF.n21 cO with name:= "slices.heapSortCmpFunc[string]" }:=by kernel_rfl
 exact⟨ "slices.heapSortCmpFunc[string]",by kernel_rfl,h▸Tryz.func299⟩
set_option maxRecDepth 100000 in
theorem shG22:Bears Tryz.prog (cO.f 22) (SlBodyF.n22 cO):=by
 have h:Tryz.f300={SlBodyF.n22 cO with name:= "slices.breakPatternsCmpFunc[string]" }:=by kernel_rfl
 exact⟨ "slices.breakPatternsCmpFunc[string]",by kernel_rfl,h▸Tryz.func300⟩
set_option maxRecDepth 100000 in
theorem shG23:Bears Tryz.prog (cO.f 23) (SlBodyF.n23 cO):=by
 have h:Tryz.f301={SlBodyF.n23 cO with name:= "slices.choosePivotCmpFunc[string]" }:=by kernel_rfl
 exact⟨ "slices.choosePivotCmpFunc[string]",by kernel_rfl,h▸Tryz.func301⟩
set_option maxRecDepth 100000 in
theorem shG24:Bears Tryz.prog (cO.f 24) (SlBodyF.n24 cO):=by
 have h:Tryz.f302={SlBodyF.n24 cO with name:= "slices.reverseRangeCmpFunc[string]" }:=by kernel_rfl
 exact⟨ "slices.reverseRangeCmpFunc[string]",by kernel_rfl,h▸Tryz.func302⟩
set_option maxRecDepth 100000 in
theorem shG25:Bears Tryz.prog (cO.f 25) (SlBodyF.n25 cO):=by
 have h:Tryz.f303={SlBodyF.n25 cO with name:= "slices.partialInsertionSortCmpFunc[string]" }:=by kernel_rfl
 exact⟨ "slices.partialInsertionSortCmpFunc[string]",by kernel_rfl,h▸Tryz.func303⟩
set_option maxRecDepth 100000 in
theorem shG26:Bears Tryz.prog (cO.f 26) (SlBodyF.n26 cO):=by
 have h:Tryz.f304={SlBodyF.n26 cO with name:= "slices.partitionEqualCmpFunc[string]" }:=by kernel_rfl
 exact⟨ "slices.partitionEqualCmpFunc[string]",by kernel_rfl,h▸Tryz.func304⟩
set_option maxRecDepth 100000 in
theorem shG27:Bears Tryz.prog (cO.f 27) (SlBodyF.n27 cO):=by
 have h:Tryz.f305={SlBodyF.n27 cO with name:= "slices.partitionCmpFunc[string]" }:=by kernel_rfl
 exact⟨ "slices.partitionCmpFunc[string]",by kernel_rfl,h▸Tryz.func305⟩
set_option maxRecDepth 100000 in
theorem shG28:Tryz.prog.funcs[cO.f 28]? =some (SlBodyF.n28 cO):=by
 have h:Tryz.f177=SlBodyF.n28 cO:=by kernel_rfl
 exact h▸Tryz.func177
set_option maxRecDepth 100000 in
theorem shG29:Tryz.prog.funcs[cO.f 29]? =some (SlBodyF.n29 cO):=by
 have h:Tryz.f178=SlBodyF.n29 cO:=by kernel_rfl
 exact h▸Tryz.func178
set_option maxRecDepth 100000 in
theorem shG46:Bears Tryz.prog (cO.f 46) (SlBodyF.n46 cO):=by
 have h:Tryz.f326={SlBodyF.n46 cO with name:= "slices.siftDownCmpFunc[string]" }:=by kernel_rfl
 exact⟨ "slices.siftDownCmpFunc[string]",by kernel_rfl,h▸Tryz.func326⟩
set_option maxRecDepth 100000 in
theorem shG47:Tryz.prog.funcs[cO.f 47]? =some (SlBodyF.n47 cO):=by
 have h:Tryz.f232=SlBodyF.n47 cO:=by kernel_rfl
 exact h▸Tryz.func232
set_option maxRecDepth 100000 in
theorem shG48:Tryz.prog.funcs[cO.f 48]? =some (SlBodyF.n48 cO):=by
 have h:Tryz.f233=SlBodyF.n48 cO:=by kernel_rfl
 exact h▸Tryz.func233
set_option maxRecDepth 100000 in
theorem shG49:Bears Tryz.prog (cO.f 49) (SlBodyF.n49 cO):=by
 have h:Tryz.f327={SlBodyF.n49 cO with name:= "slices.medianAdjacentCmpFunc[string]" }:=by kernel_rfl
 exact⟨ "slices.medianAdjacentCmpFunc[string]",by kernel_rfl,h▸Tryz.func327⟩
set_option maxRecDepth 100000 in
theorem shG50:Bears Tryz.prog (cO.f 50) (SlBodyF.n50 cO):=by
 have h:Tryz.f328={SlBodyF.n50 cO with name:= "slices.medianCmpFunc[string]" }:=by kernel_rfl
 exact⟨ "slices.medianCmpFunc[string]",by kernel_rfl,h▸Tryz.func328⟩
set_option maxRecDepth 100000 in
theorem shG57:Bears Tryz.prog (cO.f 57) (SlBodyF.n57 cO):=by
 have h:Tryz.f331={SlBodyF.n57 cO with name:= "slices.order2CmpFunc[string]" }:=by kernel_rfl
 exact⟨ "slices.order2CmpFunc[string]",by kernel_rfl,h▸Tryz.func331⟩
theorem aXy:SlLaysF.n6 Tryz.prog cO:={mixed:=by kernel_rfl,f6:=shG6,f14:=shG14,f15:=shG15,f20:=shG20,f21:=shG21,f22:=shG22,f23:=shG23,f24:=shG24,f25:=shG25,f26:=shG26,f27:=shG27,f28:=shG28,f29:=shG29,f46:=shG46,f47:=shG47,f48:=shG48,f49:=shG49,f50:=shG50,f57:=shG57,t0:=Tryz.underlying0,a0:=Tryz.isAgg0,z0:=Tryz.sizeOf0,v0:=Tryz.zeroValue0,t3:=Tryz.underlying3,a3:=Tryz.isAgg3,z3:=Tryz.sizeOf3,v3:=Tryz.zeroValue3,t4:=Tryz.underlying4,a4:=Tryz.isAgg4,z4:=Tryz.sizeOf4,v4:=Tryz.zeroValue4,t5:=Tryz.underlying5,a5:=Tryz.isAgg5,z5:=Tryz.sizeOf5,v5:=Tryz.zeroValue5,t9:=Tryz.underlying9,a9:=Tryz.isAgg9,z9:=Tryz.sizeOf9,v9:=Tryz.zeroValue9,t22:=Tryz.underlying29,a22:=Tryz.isAgg29,z22:=Tryz.sizeOf29,v22:=Tryz.zeroValue29,a24:=Tryz.isAgg9,z24:=Tryz.sizeOf9,t25:=Tryz.underlying104,a25:=Tryz.isAgg104,z25:=Tryz.sizeOf104,v25:=Tryz.zeroValue104,t39:=Tryz.underlying191,a39:=Tryz.isAgg191,z39:=Tryz.sizeOf191,v39:=Tryz.zeroValue191,t45:=Tryz.underlying241,a45:=Tryz.isAgg241,z45:=Tryz.sizeOf241,v45:=Tryz.zeroValue241,t46:=Tryz.underlying242,a46:=Tryz.isAgg242,z46:=Tryz.sizeOf242,v46:=Tryz.zeroValue242,t50:=Tryz.underlying226,a50:=Tryz.isAgg226,z50:=Tryz.sizeOf226,v50:=Tryz.zeroValue226,t53:=Tryz.underlying248,a53:=Tryz.isAgg248,z53:=Tryz.sizeOf248,v53:=Tryz.zeroValue248,t55:=Tryz.underlying250,a55:=Tryz.isAgg250,z55:=Tryz.sizeOf250,v55:=Tryz.zeroValue250,t66:=Tryz.underlying293,a66:=Tryz.isAgg293,z66:=Tryz.sizeOf293,v66:=Tryz.zeroValue293,t70:=Tryz.underlying297,a70:=Tryz.isAgg297,z70:=Tryz.sizeOf297,v70:=Tryz.zeroValue297,t76:=Tryz.underlying325,a76:=Tryz.isAgg325,z76:=Tryz.sizeOf325,v76:=Tryz.zeroValue325,t77:=Tryz.underlying122,a77:=Tryz.isAgg122,z77:=Tryz.sizeOf122,v77:=Tryz.zeroValue122}
def aFg:Go.Shelf.Ren:=⟨λn=>match n with |106=>45|194=>254|213=>85|265=>149|_=>0,λn=>match n with |0=>0|3=>3|4=>4|9=>9|31=>29|_=>0,λn=>match n with |_=>0⟩
set_option maxRecDepth 100000 in
theorem shS106:Tryz.prog.funcs[aFg.f 106]? =some (Body.n106 aFg):=by
 have h:Tryz.f45=Body.n106 aFg:=by kernel_rfl
 exact h▸Tryz.func45
set_option maxRecDepth 100000 in
theorem shS194:Tryz.prog.funcs[aFg.f 194]? =some (Body.n194 aFg):=by
 have h:Tryz.f254=Body.n194 aFg:=by kernel_rfl
 exact h▸Tryz.func254
set_option maxRecDepth 100000 in
theorem shS213:Tryz.prog.funcs[aFg.f 213]? =some (Body.n213 aFg):=by
 have h:Tryz.f85=Body.n213 aFg:=by kernel_rfl
 exact h▸Tryz.func85
set_option maxRecDepth 100000 in
theorem shS265:Tryz.prog.funcs[aFg.f 265]? =some (Body.n265 aFg):=by
 have h:Tryz.f149=Body.n265 aFg:=by kernel_rfl
 exact h▸Tryz.func149
theorem shLays106:Lays.n106 Tryz.prog aFg:={mixed:=by kernel_rfl,f106:=shS106,f213:=shS213,f265:=shS265,t3:=Tryz.underlying3,a3:=Tryz.isAgg3,z3:=Tryz.sizeOf3,v3:=Tryz.zeroValue3,t9:=Tryz.underlying9,a9:=Tryz.isAgg9,z9:=Tryz.sizeOf9,v9:=Tryz.zeroValue9}
theorem shLays194:Lays.n194 Tryz.prog aFg:={mixed:=by kernel_rfl,f194:=shS194,t0:=Tryz.underlying0,a0:=Tryz.isAgg0,z0:=Tryz.sizeOf0,v0:=Tryz.zeroValue0,t3:=Tryz.underlying3,a3:=Tryz.isAgg3,z3:=Tryz.sizeOf3,v3:=Tryz.zeroValue3,t4:=Tryz.underlying4,a4:=Tryz.isAgg4,z4:=Tryz.sizeOf4,v4:=Tryz.zeroValue4,t9:=Tryz.underlying9,a9:=Tryz.isAgg9,z9:=Tryz.sizeOf9,v9:=Tryz.zeroValue9,t31:=Tryz.underlying29,a31:=Tryz.isAgg29,z31:=Tryz.sizeOf29,v31:=Tryz.zeroValue29}
end Go.Proofs.YtbjofgmdhbiekaaGreatDoor
namespace Go.Proofs.YtbjofgmdhbiekaaGreatDoor.E
open Go.RowKit Go.OB Go.Lf Go.Sort
theorem Fhbw (b:List Str) (v0:Value) (r:List Str) (a:Fhb b=some r) (O S:List Nat) (w:World) (H:Hd O w w S [.own Rp.str v0 9 b]):
    Calls Tryz.prog 253 ([v0,.func (.func 45) #[] #[]]:List Value).toArray w λe w'=>e= .returned (.tuple #[])/\Hd O w w' S [.own Rp.str v0 9 r]:=by
 unfold Fhb at a;split at a;rename_i c;have d:=oI a;subst d;exact sortS_own aXy shLays106 H (i:=0) rfl c (enters_of Tryz.func45 (by kernel_rfl) rfl);cases a
theorem Fe5w (b:List Str) (v0:Value) (r:List Str) (a:Fe5 b=some r) (O S:List Nat) (w:World) (H:Hd O w w S [.own Rp.str v0 9 b]):
    Calls Tryz.prog 254 ([v0]:List Value).toArray w λe w'=> ∃u,e= .returned u/\Hd O w w' S [.own Rp.str u 9 r]:=by
 unfold Fe5 at a;split at a;rename_i c;have d:=oI a;subst d;exact aQe shLays194 H (i:=0) rfl c;cases a
end Go.Proofs.YtbjofgmdhbiekaaGreatDoor.E
