/- Laws that the claim stands on; no condition beyond those stated. -/
import Derived.Test.YtbjofgmdhbiekaaGreatDoorXVp
import Derived.Sort.OwnSorted
import Derived.Shelf.SlSortCmp.NoneTotal
import Derived.Shelf.Small.Strs
import Derived.Shelf.Slices.CompactS
import Derived.Test.YtbjofgmdhbiekaaGreatDoorRows
import Derived.Shelf.SlLaysF
import Derived.Shelf.Lays
namespace Go.Lf
open Go.RowKit Go.OB Go.Sort Go.Shelf Go.Proofs
def cfS (x y:Str):Int:=Lib.compareBytes x y
theorem ltS: ∀x y:Str,ltOf cfS x y=slt x y
 | [],[]=>rfl
 | [],_::_=>rfl
 |_::_,[]=>rfl
 |a::x,b::y=>by
  have g:=ltS x y;rw [aAb,<-g];unfold ltOf cfS;rw [Lib.compareBytes]
  by_cases c:a<b
  ·simp [c]
  ·by_cases d:b<a
   ·have f: ¬a=b:=λe=>c (e▸d)
    simp [c,d,f]
   ·have f:a=b:=(u8eq a b).2 (by have:=mt (aSp a b).2 c;have:=mt (aSp b a).2 d;omega);subst f;simp [c]
theorem swoS:SWO (ltOf cfS) where
 irrefl x:=by rw [ltS];exact uI x
 trans x y z h1 h2:=by rw [ltS]at *;exact wZ x y z h1 h2
 ntrans x y z h1 h2:=by rw [ltS]at *;exact aUe x y z h1 h2
variable {P:Program}{ρ ρ':Ren}{O S:List Nat}{w0 w:World}{l:List Th}{i e:Nat}{v:Value}{xl:List Str}
theorem uG: ∀{l:List Str}{F:Nat->Prop}{w:World}{cs:List Value},rows Rp.str F w cs l↔cs=l.map encStr
 | [],_,_,cs=>Iff.rfl
 |x::l,F,w,cs=>by
  constructor
  ·rintro⟨c,d,rfl,a,b⟩;have a:c=[.string (bs x)]:=a;rw [a,uG.1 b];rfl
  ·rintro rfl;exact⟨[.string (bs x)],l.map encStr,rfl,rfl,uG.2 rfl⟩
theorem cmpS (a:Lays.n106 P ρ')(W:World)(x y:Str):Calls P (ρ'.f 106) #[encStr x,encStr y] W λe w'=>e= .returned (.int .i64 (cfS x y))/\w'=W:=Any.strings_Compare a (bs x) (bs y) W
theorem sortS_own (L:SlLaysF.n6 P ρ) (G:Lays.n106 P ρ') (H:Hd O w0 w S l) (hi:l[i]? =some (.own Rp.str v e xl)) (I:xl.length<4611686018427387904)
  (J: ∀args w,(callFunc (ρ'.f 106) args).run P w= .ok (.enter (ρ'.f 106) args) w):
  Calls P (ρ.f 6) #[v,.func (.func (ρ'.f 106)) #[] #[]] w λr w'=>r= .returned (.tuple #[])/\Hd O w0 w' S (l.set i (.own Rp.str v e (srtS xl))):=by
 obtain⟨_,u,K⟩:=H.V hi;have u:=uG.1 u;subst u;have a:=srtS_len xl;rcases K.2 with ⟨rfl,M⟩|⟨g,cap,s,rfl,_,o,z,A,B,p⟩
 ·have Q:xl=[]:=List.eq_nil_of_length_eq_zero M;subst Q;refine(AnyF.slices_SortFunc_none (P:=P) (ρ:=ρ) {L with} none 0 (.func (.func (ρ'.f 106)) #[] #[]) w).mono λr w' ⟨c,d⟩=>⟨c,?_⟩
  subst d;have R:srtS []=[]:=List.eq_nil_of_length_eq_zero a;have T:l.set i (.own Rp.str (.slice none 0 0) e [])=l:=by
   apply List.ext_getElem?;intro j;rw [List.getElem?_set]
   by_cases D:i=j
   ·subst D;rw [if_pos rfl,if_pos (gS.1 hi).1];exact hi.symm
   ·rw [if_neg D]
  rw [R,T];exact H
 ·have X:Holds encStr w g 0 xl.toArray:=holds_of_block o (by have h:s.toList.take (xl.length*1)=xl.map encStr:=p;rw [Nat.mul_one]at h;exact h);have q:=Any.slices_SortFunc_total L encStr (λ_=>rfl) cfS swoS (ρ'.f 106) #[] g 0 cap xl.toArray w J (λ_ os _ _ x y=>(cmpS G _ x y).mono λ_ _ ⟨c,d⟩=>⟨c,0, #[],by rw [d,grow_empty];rfl⟩) X (Array.getElem?_eq_some_iff.1 o).1 (by simpa using I) (λx y c d=>by rw [ltS]at c d;exact aFk x y c d);have Y:(λx y:Str=> !ltOf cfS y x)=λx y=> !slt y x:=by funext x y;rw [ltS]
  rw [Y]at q;refine q.mono λr w' ⟨c,n,os,d⟩=>⟨c,?_⟩
  subst d;have t:=grownBy_sorted (w:=w) (g:=g) (n:=n) (os:=os) (srtS xl).toArray;have E:=ownsRow_sorted (base:=0) (n:=n) (os:=os) (ts:=srtS xl) a (Nat.zero_le _) o z A (show s.size=cap*1 from B);refine H.turn hi ⟨t.os,t.tape,t.output,t.size,λk hk C=>t.block k hk (λh=>C ?_)⟩ (λ_=>⟨_,uG.2 rfl,?_⟩) ?_ (aNg _)
  ·simp [Th.blocks,ob,qG]at h⊢;exact h
  ·rw [a];exact E
  ·intro b F;exact⟨.inl F,by have:=aCe E b F;exact this.2⟩
theorem aOp (L:Lays.n194 P ρ) (H:Hd O w0 w S l) (hi:l[i]? =some (.own Rp.str v e xl)) (M:xl.length<=9223372036854775807):
  Calls P (ρ.f 194) #[v] w λr w'=> ∃u,r= .returned u/\Hd O w0 w' S (l.set i (.own Rp.str u e (sS xl))):=by
 obtain⟨_,A,N⟩:=H.V hi;have A:=uG.1 A;subst A;have a:=cmpS1_len xl;have same: ∀u,l[i]? =some u->l.set i u=l:=by
  intro u Q;apply List.ext_getElem?;intro j;rw [List.getElem?_set]
  by_cases I:i=j
  ·subst I;rw [if_pos rfl,if_pos (gS.1 hi).1];exact Q.symm
  ·rw [if_neg I]
 rcases N.2 with ⟨rfl,R⟩|⟨g,cap,o,rfl,_,p,c,B,C,d⟩
 ·have X:xl=[]:=List.eq_nil_of_length_eq_zero R;subst X;refine(Any.slices_Compact_string_empty L none 0 w).mono λr w' ⟨D,E⟩=>⟨_,D,?_⟩
  subst E;have Y:sS []=[]:=List.eq_nil_of_length_eq_zero (by simpa using a);rw [Y,same _ hi];exact H
 ·have hH:Holds encStr w g 0 xl.toArray:=holds_of_block p (by have h:o.toList.take (xl.length*1)=xl.map encStr:=d;rw [Nat.mul_one]at h;exact h);refine(Any.slices_Compact_string L g 0 cap xl w hH M c).mono λr w' ⟨D,q,E⟩=>⟨_,D,?_⟩
  subst E;have F:(sS xl++List.replicate (xl.length-(sS xl).length) []).length=xl.length:=by simp;omega
  have m:=grownBy_sorted (w:=w) (g:=g) (n:=q) (os:= #[]) (sS xl++List.replicate (xl.length-(sS xl).length) []).toArray;have J:=ownsRow_sorted (base:=0) (n:=q) (os:= #[]) (ts:=sS xl++List.replicate (xl.length-(sS xl).length) []) F (Nat.zero_le _) p c B (show o.size=cap*1 from C);rw [grow_empty]at m J;have s:(putRow encStr (Sort.ahead w q) g 0 (Lib.compact xl++List.replicate (xl.length-(Lib.compact xl).length) []).toArray).ownsRow 0 e 1 (.slice (some ⟨g,0,none⟩) (sS xl).length cap) (sS xl).length ((sS xl).map encStr):=by
   obtain⟨-,t⟩:=J;rcases t with ⟨t,_⟩|⟨_,_,x,t,h4,h5,_,h7,h8,h9⟩
   ·cases t
   ·cases t
    refine⟨by simp,.inr ⟨g,cap,x,rfl,h4,h5,Nat.le_trans a c,h7,h8,?_⟩⟩;have y:=congrArg (List.take ((sS xl).length*1)) h9;rw [List.take_take,Nat.min_eq_left (by omega)]at y;rw [y,List.map_append,Nat.mul_one,List.take_left' (by simp)]
  refine H.turn hi ⟨m.os,m.tape,m.output,m.size,λk hk G=>m.block k hk (λh=>G ?_)⟩ (λ_=>⟨_,uG.2 rfl,?_⟩) ?_ (aNg _)
  ·simp [Th.blocks,ob,qG]at h⊢;exact h
  ·exact s
  ·intro b z;have z:b∈ob (.slice (some ⟨g,0,none⟩) (sS xl).length cap):=z;refine⟨.inl (by simpa [Th.blocks,ob,qG]using z),by have:=aCe s b z;exact this.2⟩
end Go.Lf
namespace Go.Proofs.YtbjofgmdhbiekaaGreatDoor
open Go Go.Shelf Go.Proofs
def dZ:Go.Shelf.Ren:=⟨λn=>match n with |6=>253|14=>284|15=>110|20=>298|21=>299|22=>300|23=>301|24=>302|25=>303|26=>304|27=>305|28=>177|29=>178|46=>326|47=>232|48=>233|49=>327|50=>328|57=>331|_=>0,λn=>match n with |0=>0|3=>3|4=>4|5=>5|9=>9|22=>29|24=>9|25=>104|39=>191|45=>241|46=>242|50=>226|53=>248|55=>250|66=>293|70=>297|76=>325|77=>122|_=>0,λn=>match n with |_=>0⟩
set_option maxRecDepth 100000 in
theorem shG6:Bears Tryz.prog (dZ.f 6) (SlBodyF.n6 dZ):=by
 have h:Tryz.f253={SlBodyF.n6 dZ with name:= "slices.SortFunc[[]string,string]" }:=by kernel_rfl
 exact⟨ "slices.SortFunc[[]string,string]",by kernel_rfl,h▸Tryz.func253⟩
set_option maxRecDepth 100000 in
theorem shG14:Bears Tryz.prog (dZ.f 14) (SlBodyF.n14 dZ):=by
 have h:Tryz.f284={SlBodyF.n14 dZ with name:= "slices.pdqsortCmpFunc[string]" }:=by kernel_rfl
 exact⟨ "slices.pdqsortCmpFunc[string]",by kernel_rfl,h▸Tryz.func284⟩
set_option maxRecDepth 100000 in
theorem shG15:Tryz.prog.funcs[dZ.f 15]? =some (SlBodyF.n15 dZ):=by
 have h:Tryz.f110=SlBodyF.n15 dZ:=by kernel_rfl
 exact h▸Tryz.func110
set_option maxRecDepth 100000 in
theorem shG20:Bears Tryz.prog (dZ.f 20) (SlBodyF.n20 dZ):=by
 have h:Tryz.f298={SlBodyF.n20 dZ with name:= "slices.insertionSortCmpFunc[string]" }:=by kernel_rfl
 exact⟨ "slices.insertionSortCmpFunc[string]",by kernel_rfl,h▸Tryz.func298⟩
set_option maxRecDepth 100000 in
theorem shG21:Bears Tryz.prog (dZ.f 21) (SlBodyF.n21 dZ):=by
 have h:Tryz.f299={SlBodyF.n21 dZ with name:= "slices.heapSortCmpFunc[string]" }:=by kernel_rfl
 exact⟨ "slices.heapSortCmpFunc[string]",by kernel_rfl,h▸Tryz.func299⟩
set_option maxRecDepth 100000 in
theorem shG22:Bears Tryz.prog (dZ.f 22) (SlBodyF.n22 dZ):=by
 have h:Tryz.f300={SlBodyF.n22 dZ with name:= "slices.breakPatternsCmpFunc[string]" }:=by kernel_rfl
 exact⟨ "slices.breakPatternsCmpFunc[string]",by kernel_rfl,h▸Tryz.func300⟩
set_option maxRecDepth 100000 in
theorem shG23:Bears Tryz.prog (dZ.f 23) (SlBodyF.n23 dZ):=by
 have h:Tryz.f301={SlBodyF.n23 dZ with name:= "slices.choosePivotCmpFunc[string]" }:=by kernel_rfl
 exact⟨ "slices.choosePivotCmpFunc[string]",by kernel_rfl,h▸Tryz.func301⟩
set_option maxRecDepth 100000 in
theorem shG24:Bears Tryz.prog (dZ.f 24) (SlBodyF.n24 dZ):=by
 have h:Tryz.f302={SlBodyF.n24 dZ with name:= "slices.reverseRangeCmpFunc[string]" }:=by kernel_rfl
 exact⟨ "slices.reverseRangeCmpFunc[string]",by kernel_rfl,h▸Tryz.func302⟩
set_option maxRecDepth 100000 in
theorem shG25:Bears Tryz.prog (dZ.f 25) (SlBodyF.n25 dZ):=by
 have h:Tryz.f303={SlBodyF.n25 dZ with name:= "slices.partialInsertionSortCmpFunc[string]" }:=by kernel_rfl
 exact⟨ "slices.partialInsertionSortCmpFunc[string]",by kernel_rfl,h▸Tryz.func303⟩
set_option maxRecDepth 100000 in
theorem shG26:Bears Tryz.prog (dZ.f 26) (SlBodyF.n26 dZ):=by
 have h:Tryz.f304={SlBodyF.n26 dZ with name:= "slices.partitionEqualCmpFunc[string]" }:=by kernel_rfl
 exact⟨ "slices.partitionEqualCmpFunc[string]",by kernel_rfl,h▸Tryz.func304⟩
set_option maxRecDepth 100000 in
theorem shG27:Bears Tryz.prog (dZ.f 27) (SlBodyF.n27 dZ):=by
 have h:Tryz.f305={SlBodyF.n27 dZ with name:= "slices.partitionCmpFunc[string]" }:=by kernel_rfl
 exact⟨ "slices.partitionCmpFunc[string]",by kernel_rfl,h▸Tryz.func305⟩
set_option maxRecDepth 100000 in
theorem shG28:Tryz.prog.funcs[dZ.f 28]? =some (SlBodyF.n28 dZ):=by
 have h:Tryz.f177=SlBodyF.n28 dZ:=by kernel_rfl
 exact h▸Tryz.func177
set_option maxRecDepth 100000 in
theorem shG29:Tryz.prog.funcs[dZ.f 29]? =some (SlBodyF.n29 dZ):=by
 have h:Tryz.f178=SlBodyF.n29 dZ:=by kernel_rfl
 exact h▸Tryz.func178
set_option maxRecDepth 100000 in
theorem shG46:Bears Tryz.prog (dZ.f 46) (SlBodyF.n46 dZ):=by
 have h:Tryz.f326={SlBodyF.n46 dZ with name:= "slices.siftDownCmpFunc[string]" }:=by kernel_rfl
 exact⟨ "slices.siftDownCmpFunc[string]",by kernel_rfl,h▸Tryz.func326⟩
set_option maxRecDepth 100000 in
theorem shG47:Tryz.prog.funcs[dZ.f 47]? =some (SlBodyF.n47 dZ):=by
 have h:Tryz.f232=SlBodyF.n47 dZ:=by kernel_rfl
 exact h▸Tryz.func232
set_option maxRecDepth 100000 in
theorem shG48:Tryz.prog.funcs[dZ.f 48]? =some (SlBodyF.n48 dZ):=by
 have h:Tryz.f233=SlBodyF.n48 dZ:=by kernel_rfl
 exact h▸Tryz.func233
set_option maxRecDepth 100000 in
theorem shG49:Bears Tryz.prog (dZ.f 49) (SlBodyF.n49 dZ):=by
 have h:Tryz.f327={SlBodyF.n49 dZ with name:= "slices.medianAdjacentCmpFunc[string]" }:=by kernel_rfl
 exact⟨ "slices.medianAdjacentCmpFunc[string]",by kernel_rfl,h▸Tryz.func327⟩
set_option maxRecDepth 100000 in
theorem shG50:Bears Tryz.prog (dZ.f 50) (SlBodyF.n50 dZ):=by
 have h:Tryz.f328={SlBodyF.n50 dZ with name:= "slices.medianCmpFunc[string]" }:=by kernel_rfl
 exact⟨ "slices.medianCmpFunc[string]",by kernel_rfl,h▸Tryz.func328⟩
set_option maxRecDepth 100000 in
theorem shG57:Bears Tryz.prog (dZ.f 57) (SlBodyF.n57 dZ):=by
 have h:Tryz.f331={SlBodyF.n57 dZ with name:= "slices.order2CmpFunc[string]" }:=by kernel_rfl
 exact⟨ "slices.order2CmpFunc[string]",by kernel_rfl,h▸Tryz.func331⟩
theorem aTr:SlLaysF.n6 Tryz.prog dZ:={mixed:=by kernel_rfl,f6:=shG6,f14:=shG14,f15:=shG15,f20:=shG20,f21:=shG21,f22:=shG22,f23:=shG23,f24:=shG24,f25:=shG25,f26:=shG26,f27:=shG27,f28:=shG28,f29:=shG29,f46:=shG46,f47:=shG47,f48:=shG48,f49:=shG49,f50:=shG50,f57:=shG57,t0:=Tryz.underlying0,a0:=Tryz.isAgg0,z0:=Tryz.sizeOf0,v0:=Tryz.zeroValue0,t3:=Tryz.underlying3,a3:=Tryz.isAgg3,z3:=Tryz.sizeOf3,v3:=Tryz.zeroValue3,t4:=Tryz.underlying4,a4:=Tryz.isAgg4,z4:=Tryz.sizeOf4,v4:=Tryz.zeroValue4,t5:=Tryz.underlying5,a5:=Tryz.isAgg5,z5:=Tryz.sizeOf5,v5:=Tryz.zeroValue5,t9:=Tryz.underlying9,a9:=Tryz.isAgg9,z9:=Tryz.sizeOf9,v9:=Tryz.zeroValue9,t22:=Tryz.underlying29,a22:=Tryz.isAgg29,z22:=Tryz.sizeOf29,v22:=Tryz.zeroValue29,a24:=Tryz.isAgg9,z24:=Tryz.sizeOf9,t25:=Tryz.underlying104,a25:=Tryz.isAgg104,z25:=Tryz.sizeOf104,v25:=Tryz.zeroValue104,t39:=Tryz.underlying191,a39:=Tryz.isAgg191,z39:=Tryz.sizeOf191,v39:=Tryz.zeroValue191,t45:=Tryz.underlying241,a45:=Tryz.isAgg241,z45:=Tryz.sizeOf241,v45:=Tryz.zeroValue241,t46:=Tryz.underlying242,a46:=Tryz.isAgg242,z46:=Tryz.sizeOf242,v46:=Tryz.zeroValue242,t50:=Tryz.underlying226,a50:=Tryz.isAgg226,z50:=Tryz.sizeOf226,v50:=Tryz.zeroValue226,t53:=Tryz.underlying248,a53:=Tryz.isAgg248,z53:=Tryz.sizeOf248,v53:=Tryz.zeroValue248,t55:=Tryz.underlying250,a55:=Tryz.isAgg250,z55:=Tryz.sizeOf250,v55:=Tryz.zeroValue250,t66:=Tryz.underlying293,a66:=Tryz.isAgg293,z66:=Tryz.sizeOf293,v66:=Tryz.zeroValue293,t70:=Tryz.underlying297,a70:=Tryz.isAgg297,z70:=Tryz.sizeOf297,v70:=Tryz.zeroValue297,t76:=Tryz.underlying325,a76:=Tryz.isAgg325,z76:=Tryz.sizeOf325,v76:=Tryz.zeroValue325,t77:=Tryz.underlying122,a77:=Tryz.isAgg122,z77:=Tryz.sizeOf122,v77:=Tryz.zeroValue122}
def aFd:Go.Shelf.Ren:=⟨λn=>match n with |106=>45|194=>254|213=>85|265=>149|_=>0,λn=>match n with |0=>0|3=>3|4=>4|9=>9|31=>29|_=>0,λn=>match n with |_=>0⟩
set_option maxRecDepth 100000 in
theorem shS106:Tryz.prog.funcs[aFd.f 106]? =some (Body.n106 aFd):=by
 have h:Tryz.f45=Body.n106 aFd:=by kernel_rfl
 exact h▸Tryz.func45
set_option maxRecDepth 100000 in
theorem shS194:Tryz.prog.funcs[aFd.f 194]? =some (Body.n194 aFd):=by
 have h:Tryz.f254=Body.n194 aFd:=by kernel_rfl
 exact h▸Tryz.func254
set_option maxRecDepth 100000 in
theorem shS213:Tryz.prog.funcs[aFd.f 213]? =some (Body.n213 aFd):=by
 have h:Tryz.f85=Body.n213 aFd:=by kernel_rfl
 exact h▸Tryz.func85
set_option maxRecDepth 100000 in
theorem shS265:Tryz.prog.funcs[aFd.f 265]? =some (Body.n265 aFd):=by
 have h:Tryz.f149=Body.n265 aFd:=by kernel_rfl
 exact h▸Tryz.func149
theorem aNc:Lays.n106 Tryz.prog aFd:={mixed:=by kernel_rfl,f106:=shS106,f213:=shS213,f265:=shS265,t3:=Tryz.underlying3,a3:=Tryz.isAgg3,z3:=Tryz.sizeOf3,v3:=Tryz.zeroValue3,t9:=Tryz.underlying9,a9:=Tryz.isAgg9,z9:=Tryz.sizeOf9,v9:=Tryz.zeroValue9}
theorem shLays194:Lays.n194 Tryz.prog aFd:={mixed:=by kernel_rfl,f194:=shS194,t0:=Tryz.underlying0,a0:=Tryz.isAgg0,z0:=Tryz.sizeOf0,v0:=Tryz.zeroValue0,t3:=Tryz.underlying3,a3:=Tryz.isAgg3,z3:=Tryz.sizeOf3,v3:=Tryz.zeroValue3,t4:=Tryz.underlying4,a4:=Tryz.isAgg4,z4:=Tryz.sizeOf4,v4:=Tryz.zeroValue4,t9:=Tryz.underlying9,a9:=Tryz.isAgg9,z9:=Tryz.sizeOf9,v9:=Tryz.zeroValue9,t31:=Tryz.underlying29,a31:=Tryz.isAgg29,z31:=Tryz.sizeOf29,v31:=Tryz.zeroValue29}
end Go.Proofs.YtbjofgmdhbiekaaGreatDoor
namespace Go.Proofs.YtbjofgmdhbiekaaGreatDoor.E
open Go.RowKit Go.OB Go.Lf Go.Sort
theorem Fghw (b:List Str) (v0:Value) (r:List Str) (a:Fgh b=some r) (O S:List Nat) (w:World) (H:Hd O w w S [.own Rp.str v0 9 b]):
    Calls Tryz.prog 253 ([v0,.func (.func 45) #[] #[]]:List Value).toArray w λe w'=>e= .returned (.tuple #[])/\Hd O w w' S [.own Rp.str v0 9 r]:=by
 unfold Fgh at a;split at a;rename_i c;have d:=oI a;subst d;exact sortS_own aTr aNc H (i:=0) rfl c (enters_of Tryz.func45 (by kernel_rfl) rfl);cases a
theorem Fhjw (b:List Str) (v0:Value) (r:List Str) (a:Fhj b=some r) (O S:List Nat) (w:World) (H:Hd O w w S [.own Rp.str v0 9 b]):
    Calls Tryz.prog 254 ([v0]:List Value).toArray w λe w'=> ∃u,e= .returned u/\Hd O w w' S [.own Rp.str u 9 r]:=by
 unfold Fhj at a;split at a;rename_i c;have d:=oI a;subst d;exact aOp shLays194 H (i:=0) rfl c;cases a
end Go.Proofs.YtbjofgmdhbiekaaGreatDoor.E
