/- Laws that the claim stands on; no condition beyond those stated. -/
import Derived.Test.YtolnigkhnidkoacGreatDoorXVp
import Derived.Sort.OwnSorted
import Derived.Shelf.SlSortCmp.NoneTotal
import Derived.Shelf.Small.Strs
import Derived.Shelf.Slices.CompactS
import Derived.Test.YtolnigkhnidkoacGreatDoorRows
import Derived.Shelf.SlLaysF
import Derived.Shelf.Lays
namespace Go.Lf
open Go.RowKit Go.OB Go.Sort Go.Shelf Go.Proofs
def cfS (x y:Str):Int:=Lib.compareBytes x y
theorem ltS: ∀x y:Str,ltOf cfS x y=slt x y
 | [],[]=>rfl
 | [],_::_=>rfl
 |_::_,[]=>rfl
 |a::x,b::y=>by
  have g:=ltS x y;rw [aFj,<-g];unfold ltOf cfS;rw [Lib.compareBytes]
  by_cases c:a<b
  ·simp [c]
  ·by_cases d:b<a
   ·have f: ¬a=b:=λe=>c (e▸d)
    simp [c,d,f]
   ·have f:a=b:=(u8eq a b).2 (by have:=mt (u8lt a b).2 c;have:=mt (u8lt b a).2 d;omega);subst f;simp [c]
theorem swoS:SWO (ltOf cfS) where
 irrefl x:=by rw [ltS];exact aKb x
 trans x y z h1 h2:=by rw [ltS]at *;exact aHn x y z h1 h2
 ntrans x y z h1 h2:=by rw [ltS]at *;exact aVc x y z h1 h2
variable {P:Program}{ρ ρ':Ren}{O S:List Nat}{w0 w:World}{l:List Th}{i e:Nat}{v:Value}{xl:List Str}
theorem uZ: ∀{l:List Str}{F:Nat->Prop}{w:World}{cs:List Value},rows Rp.str F w cs l↔cs=l.map encStr
 | [],_,_,cs=>Iff.rfl
 |x::l,F,w,cs=>by
  constructor
  ·rintro⟨c,d,rfl,a,b⟩;have a:c=[.string (bs x)]:=a;rw [a,uZ.1 b];rfl
  ·rintro rfl;exact⟨[.string (bs x)],l.map encStr,rfl,rfl,uZ.2 rfl⟩
theorem cmpS (a:Lays.n106 P ρ')(W:World)(x y:Str):Calls P (ρ'.f 106) #[encStr x,encStr y] W λe w'=>e= .returned (.int .i64 (cfS x y))/\w'=W:=Any.strings_Compare a (bs x) (bs y) W
theorem sortS_own (L:SlLaysF.n6 P ρ) (G:Lays.n106 P ρ') (H:Hd O w0 w S l) (hi:l[i]? =some (.own Rp.str v e xl)) (I:xl.length<4611686018427387904)
  (J: ∀args w,(callFunc (ρ'.f 106) args).run P w= .ok (.enter (ρ'.f 106) args) w):
  Calls P (ρ.f 6) #[v,.func (.func (ρ'.f 106)) #[] #[]] w λr w'=>r= .returned (.tuple #[])/\Hd O w0 w' S (l.set i (.own Rp.str v e (srtS xl))):=by
 obtain⟨_,u,K⟩:=H.V hi;have u:=uZ.1 u;subst u;have a:=srtS_len xl;rcases K.2 with ⟨rfl,M⟩|⟨g,cap,s,rfl,_,o,z,A,B,p⟩
 ·have Q:xl=[]:=List.eq_nil_of_length_eq_zero M;subst Q;refine(AnyF.slices_SortFunc_none (P:=P) (ρ:=ρ) {L with} none 0 (.func (.func (ρ'.f 106)) #[] #[]) w).mono λr w' ⟨c,d⟩=>⟨c,?_⟩
  subst d;have R:srtS []=[]:=List.eq_nil_of_length_eq_zero a;have T:l.set i (.own Rp.str (.slice none 0 0) e [])=l:=by
   apply List.ext_getElem?;intro j;rw [List.getElem?_set]
   by_cases D:i=j
   ·subst D;rw [if_pos rfl,if_pos (gS.1 hi).1];exact hi.symm
   ·rw [if_neg D]
  rw [R,T];exact H
 ·have X:Holds encStr w g 0 xl.toArray:=holds_of_block o (by have h:s.toList.take (xl.length*1)=xl.map encStr:=p;rw [Nat.mul_one]at h;exact h);have q:=Any.slices_SortFunc_total L encStr (λ_=>rfl) cfS swoS (ρ'.f 106) #[] g 0 cap xl.toArray w J (λ_ os _ _ x y=>(cmpS G _ x y).mono λ_ _ ⟨c,d⟩=>⟨c,0, #[],by rw [d,grow_empty];rfl⟩) X (Array.getElem?_eq_some_iff.1 o).1 (by simpa using I) (λx y c d=>by rw [ltS]at c d;exact aOk x y c d);have Y:(λx y:Str=> !ltOf cfS y x)=λx y=> !slt y x:=by funext x y;rw [ltS]
  rw [Y]at q;refine q.mono λr w' ⟨c,n,os,d⟩=>⟨c,?_⟩
  subst d;have t:=grownBy_sorted (w:=w) (g:=g) (n:=n) (os:=os) (srtS xl).toArray;have E:=ownsRow_sorted (base:=0) (n:=n) (os:=os) (ts:=srtS xl) a (Nat.zero_le _) o z A (show s.size=cap*1 from B);refine H.turn hi ⟨t.os,t.tape,t.output,t.size,λk hk C=>t.block k hk (λh=>C ?_)⟩ (λ_=>⟨_,uZ.2 rfl,?_⟩) ?_ (aJx _)
  ·simp [Th.blocks,ob,qY]at h⊢;exact h
  ·rw [a];exact E
  ·intro b F;exact⟨.inl F,by have:=aDs E b F;exact this.2⟩
theorem aPw (L:Lays.n194 P ρ) (H:Hd O w0 w S l) (hi:l[i]? =some (.own Rp.str v e xl)) (M:xl.length<=9223372036854775807):
  Calls P (ρ.f 194) #[v] w λr w'=> ∃u,r= .returned u/\Hd O w0 w' S (l.set i (.own Rp.str u e (uI xl))):=by
 obtain⟨_,A,N⟩:=H.V hi;have A:=uZ.1 A;subst A;have a:=cmpS1_len xl;have same: ∀u,l[i]? =some u->l.set i u=l:=by
  intro u Q;apply List.ext_getElem?;intro j;rw [List.getElem?_set]
  by_cases I:i=j
  ·subst I;rw [if_pos rfl,if_pos (gS.1 hi).1];exact Q.symm
  ·rw [if_neg I]
 rcases N.2 with ⟨rfl,R⟩|⟨g,cap,o,rfl,_,p,c,B,C,d⟩
 ·have X:xl=[]:=List.eq_nil_of_length_eq_zero R;subst X;refine(Any.slices_Compact_string_empty L none 0 w).mono λr w' ⟨D,E⟩=>⟨_,D,?_⟩
  subst E;have Y:uI []=[]:=List.eq_nil_of_length_eq_zero (by simpa using a);rw [Y,same _ hi];exact H
 ·have hH:Holds encStr w g 0 xl.toArray:=holds_of_block p (by have h:o.toList.take (xl.length*1)=xl.map encStr:=d;rw [Nat.mul_one]at h;exact h);refine(Any.slices_Compact_string L g 0 cap xl w hH M c).mono λr w' ⟨D,q,E⟩=>⟨_,D,?_⟩
  subst E;have F:(uI xl++List.replicate (xl.length-(uI xl).length) []).length=xl.length:=by simp;omega
  have m:=grownBy_sorted (w:=w) (g:=g) (n:=q) (os:= #[]) (uI xl++List.replicate (xl.length-(uI xl).length) []).toArray;have J:=ownsRow_sorted (base:=0) (n:=q) (os:= #[]) (ts:=uI xl++List.replicate (xl.length-(uI xl).length) []) F (Nat.zero_le _) p c B (show o.size=cap*1 from C);rw [grow_empty]at m J;have s:(putRow encStr (Sort.ahead w q) g 0 (Lib.compact xl++List.replicate (xl.length-(Lib.compact xl).length) []).toArray).ownsRow 0 e 1 (.slice (some ⟨g,0,none⟩) (uI xl).length cap) (uI xl).length ((uI xl).map encStr):=by
   obtain⟨-,t⟩:=J;rcases t with ⟨t,_⟩|⟨_,_,x,t,h4,h5,_,h7,h8,h9⟩
   ·cases t
   ·cases t
    refine⟨by simp,.inr ⟨g,cap,x,rfl,h4,h5,Nat.le_trans a c,h7,h8,?_⟩⟩;have y:=congrArg (List.take ((uI xl).length*1)) h9;rw [List.take_take,Nat.min_eq_left (by omega)]at y;rw [y,List.map_append,Nat.mul_one,List.take_left' (by simp)]
  refine H.turn hi ⟨m.os,m.tape,m.output,m.size,λk hk G=>m.block k hk (λh=>G ?_)⟩ (λ_=>⟨_,uZ.2 rfl,?_⟩) ?_ (aJx _)
  ·simp [Th.blocks,ob,qY]at h⊢;exact h
  ·exact s
  ·intro b z;have z:b∈ob (.slice (some ⟨g,0,none⟩) (uI xl).length cap):=z;refine⟨.inl (by simpa [Th.blocks,ob,qY]using z),by have:=aDs s b z;exact this.2⟩
end Go.Lf
namespace Go.Proofs.YtolnigkhnidkoacGreatDoor
open Go Go.Shelf Go.Proofs
def dZ:Go.Shelf.Ren:=⟨λn=>match n with |6=>220|14=>238|15=>239|20=>266|21=>267|22=>268|23=>269|24=>270|25=>271|26=>272|27=>273|28=>274|29=>224|46=>279|47=>280|48=>281|49=>282|50=>283|57=>286|_=>0,λn=>match n with |0=>0|3=>3|4=>4|5=>5|9=>9|22=>90|24=>9|25=>271|39=>204|45=>305|46=>306|50=>156|53=>275|55=>205|66=>319|70=>268|76=>329|77=>132|_=>0,λn=>match n with |_=>0⟩
set_option maxRecDepth 100000 in
theorem shG6:Bears Tryz.prog (dZ.f 6) (SlBodyF.n6 dZ):=by
 have h:Tryz.f220={SlBodyF.n6 dZ with name:= "slices.SortFunc[[]string,string]" }:=by kernel_rfl
 exact⟨ "slices.SortFunc[[]string,string]",by kernel_rfl,h▸Tryz.func220⟩
set_option maxRecDepth 100000 in
theorem shG14:Bears Tryz.prog (dZ.f 14) (SlBodyF.n14 dZ):=by
 have h:Tryz.f238={SlBodyF.n14 dZ with name:= "slices.pdqsortCmpFunc[string]" }:=by kernel_rfl
 exact⟨ "slices.pdqsortCmpFunc[string]",by kernel_rfl,h▸Tryz.func238⟩
set_option maxRecDepth 100000 in
theorem shG15:Tryz.prog.funcs[dZ.f 15]? =some (SlBodyF.n15 dZ):=by
 have h:Tryz.f239=SlBodyF.n15 dZ:=by kernel_rfl
 exact h▸Tryz.func239
set_option maxRecDepth 100000 in
theorem shG20:Bears Tryz.prog (dZ.f 20) (SlBodyF.n20 dZ):=by
 have h:Tryz.f266={SlBodyF.n20 dZ with name:= "slices.insertionSortCmpFunc[string]" }:=by kernel_rfl
 exact⟨ "slices.insertionSortCmpFunc[string]",by kernel_rfl,h▸Tryz.func266⟩
set_option maxRecDepth 100000 in
theorem shG21:Bears Tryz.prog (dZ.f 21) (SlBodyF.n21 dZ):=by
 have h:Tryz.f267={SlBodyF.n21 dZ with name:= "slices.heapSortCmpFunc[string]" }:=by kernel_rfl
 exact⟨ "slices.heapSortCmpFunc[string]",by kernel_rfl,h▸Tryz.func267⟩
set_option maxRecDepth 100000 in
theorem shG22:Bears Tryz.prog (dZ.f 22) (SlBodyF.n22 dZ):=by
 have h:Tryz.f268={SlBodyF.n22 dZ with name:= "slices.breakPatternsCmpFunc[string]" }:=by kernel_rfl
 exact⟨ "slices.breakPatternsCmpFunc[string]",by kernel_rfl,h▸Tryz.func268⟩
set_option maxRecDepth 100000 in
theorem shG23:Bears Tryz.prog (dZ.f 23) (SlBodyF.n23 dZ):=by
 have h:Tryz.f269={SlBodyF.n23 dZ with name:= "slices.choosePivotCmpFunc[string]" }:=by kernel_rfl
 exact⟨ "slices.choosePivotCmpFunc[string]",by kernel_rfl,h▸Tryz.func269⟩
set_option maxRecDepth 100000 in
theorem shG24:Bears Tryz.prog (dZ.f 24) (SlBodyF.n24 dZ):=by
 have h:Tryz.f270={SlBodyF.n24 dZ with name:= "slices.reverseRangeCmpFunc[string]" }:=by kernel_rfl
 exact⟨ "slices.reverseRangeCmpFunc[string]",by kernel_rfl,h▸Tryz.func270⟩
set_option maxRecDepth 100000 in
theorem shG25:Bears Tryz.prog (dZ.f 25) (SlBodyF.n25 dZ):=by
 have h:Tryz.f271={SlBodyF.n25 dZ with name:= "slices.partialInsertionSortCmpFunc[string]" }:=by kernel_rfl
 exact⟨ "slices.partialInsertionSortCmpFunc[string]",by kernel_rfl,h▸Tryz.func271⟩
set_option maxRecDepth 100000 in
theorem shG26:Bears Tryz.prog (dZ.f 26) (SlBodyF.n26 dZ):=by
 have h:Tryz.f272={SlBodyF.n26 dZ with name:= "slices.partitionEqualCmpFunc[string]" }:=by kernel_rfl
 exact⟨ "slices.partitionEqualCmpFunc[string]",by kernel_rfl,h▸Tryz.func272⟩
set_option maxRecDepth 100000 in
theorem shG27:Bears Tryz.prog (dZ.f 27) (SlBodyF.n27 dZ):=by
 have h:Tryz.f273={SlBodyF.n27 dZ with name:= "slices.partitionCmpFunc[string]" }:=by kernel_rfl
 exact⟨ "slices.partitionCmpFunc[string]",by kernel_rfl,h▸Tryz.func273⟩
set_option maxRecDepth 100000 in
theorem shG28:Tryz.prog.funcs[dZ.f 28]? =some (SlBodyF.n28 dZ):=by
 have h:Tryz.f274=SlBodyF.n28 dZ:=by kernel_rfl
 exact h▸Tryz.func274
set_option maxRecDepth 100000 in
theorem shG29:Tryz.prog.funcs[dZ.f 29]? =some (SlBodyF.n29 dZ):=by
 have h:Tryz.f224=SlBodyF.n29 dZ:=by kernel_rfl
 exact h▸Tryz.func224
set_option maxRecDepth 100000 in
theorem shG46:Bears Tryz.prog (dZ.f 46) (SlBodyF.n46 dZ):=by
 have h:Tryz.f279={SlBodyF.n46 dZ with name:= "slices.siftDownCmpFunc[string]" }:=by kernel_rfl
 exact⟨ "slices.siftDownCmpFunc[string]",by kernel_rfl,h▸Tryz.func279⟩
set_option maxRecDepth 100000 in
theorem shG47:Tryz.prog.funcs[dZ.f 47]? =some (SlBodyF.n47 dZ):=by
 have h:Tryz.f280=SlBodyF.n47 dZ:=by kernel_rfl
 exact h▸Tryz.func280
set_option maxRecDepth 100000 in
theorem shG48:Tryz.prog.funcs[dZ.f 48]? =some (SlBodyF.n48 dZ):=by
 have h:Tryz.f281=SlBodyF.n48 dZ:=by kernel_rfl
 exact h▸Tryz.func281
set_option maxRecDepth 100000 in
theorem shG49:Bears Tryz.prog (dZ.f 49) (SlBodyF.n49 dZ):=by
 have h:Tryz.f282={SlBodyF.n49 dZ with name:= "slices.medianAdjacentCmpFunc[string]" }:=by kernel_rfl
 exact⟨ "slices.medianAdjacentCmpFunc[string]",by kernel_rfl,h▸Tryz.func282⟩
set_option maxRecDepth 100000 in
theorem shG50:Bears Tryz.prog (dZ.f 50) (SlBodyF.n50 dZ):=by
 have h:Tryz.f283={SlBodyF.n50 dZ with name:= "slices.medianCmpFunc[string]" }:=by kernel_rfl
 exact⟨ "slices.medianCmpFunc[string]",by kernel_rfl,h▸Tryz.func283⟩
set_option maxRecDepth 100000 in
theorem shG57:Bears Tryz.prog (dZ.f 57) (SlBodyF.n57 dZ):=by
 have h:Tryz.f286={SlBodyF.n57 dZ with name:= "slices.order2CmpFunc[string]" }:=by kernel_rfl
 exact⟨ "slices.order2CmpFunc[string]",by kernel_rfl,h▸Tryz.func286⟩
theorem aUk:SlLaysF.n6 Tryz.prog dZ:={mixed:=by kernel_rfl,f6:=shG6,f14:=shG14,f15:=shG15,f20:=shG20,f21:=shG21,f22:=shG22,f23:=shG23,f24:=shG24,f25:=shG25,f26:=shG26,f27:=shG27,f28:=shG28,f29:=shG29,f46:=shG46,f47:=shG47,f48:=shG48,f49:=shG49,f50:=shG50,f57:=shG57,t0:=Tryz.underlying0,a0:=Tryz.isAgg0,z0:=Tryz.sizeOf0,v0:=Tryz.zeroValue0,t3:=Tryz.underlying3,a3:=Tryz.isAgg3,z3:=Tryz.sizeOf3,v3:=Tryz.zeroValue3,t4:=Tryz.underlying4,a4:=Tryz.isAgg4,z4:=Tryz.sizeOf4,v4:=Tryz.zeroValue4,t5:=Tryz.underlying5,a5:=Tryz.isAgg5,z5:=Tryz.sizeOf5,v5:=Tryz.zeroValue5,t9:=Tryz.underlying9,a9:=Tryz.isAgg9,z9:=Tryz.sizeOf9,v9:=Tryz.zeroValue9,t22:=Tryz.underlying90,a22:=Tryz.isAgg90,z22:=Tryz.sizeOf90,v22:=Tryz.zeroValue90,a24:=Tryz.isAgg9,z24:=Tryz.sizeOf9,t25:=Tryz.underlying271,a25:=Tryz.isAgg271,z25:=Tryz.sizeOf271,v25:=Tryz.zeroValue271,t39:=Tryz.underlying204,a39:=Tryz.isAgg204,z39:=Tryz.sizeOf204,v39:=Tryz.zeroValue204,t45:=Tryz.underlying305,a45:=Tryz.isAgg305,z45:=Tryz.sizeOf305,v45:=Tryz.zeroValue305,t46:=Tryz.underlying306,a46:=Tryz.isAgg306,z46:=Tryz.sizeOf306,v46:=Tryz.zeroValue306,t50:=Tryz.underlying156,a50:=Tryz.isAgg156,z50:=Tryz.sizeOf156,v50:=Tryz.zeroValue156,t53:=Tryz.underlying275,a53:=Tryz.isAgg275,z53:=Tryz.sizeOf275,v53:=Tryz.zeroValue275,t55:=Tryz.underlying205,a55:=Tryz.isAgg205,z55:=Tryz.sizeOf205,v55:=Tryz.zeroValue205,t66:=Tryz.underlying319,a66:=Tryz.isAgg319,z66:=Tryz.sizeOf319,v66:=Tryz.zeroValue319,t70:=Tryz.underlying268,a70:=Tryz.isAgg268,z70:=Tryz.sizeOf268,v70:=Tryz.zeroValue268,t76:=Tryz.underlying329,a76:=Tryz.isAgg329,z76:=Tryz.sizeOf329,v76:=Tryz.zeroValue329,t77:=Tryz.underlying132,a77:=Tryz.isAgg132,z77:=Tryz.sizeOf132,v77:=Tryz.zeroValue132}
def aFq:Go.Shelf.Ren:=⟨λn=>match n with |106=>221|194=>222|213=>240|265=>275|_=>0,λn=>match n with |0=>0|3=>3|4=>4|9=>9|31=>90|_=>0,λn=>match n with |_=>0⟩
set_option maxRecDepth 100000 in
theorem shS106:Tryz.prog.funcs[aFq.f 106]? =some (Body.n106 aFq):=by
 have h:Tryz.f221=Body.n106 aFq:=by kernel_rfl
 exact h▸Tryz.func221
set_option maxRecDepth 100000 in
theorem shS194:Tryz.prog.funcs[aFq.f 194]? =some (Body.n194 aFq):=by
 have h:Tryz.f222=Body.n194 aFq:=by kernel_rfl
 exact h▸Tryz.func222
set_option maxRecDepth 100000 in
theorem shS213:Tryz.prog.funcs[aFq.f 213]? =some (Body.n213 aFq):=by
 have h:Tryz.f240=Body.n213 aFq:=by kernel_rfl
 exact h▸Tryz.func240
set_option maxRecDepth 100000 in
theorem shS265:Tryz.prog.funcs[aFq.f 265]? =some (Body.n265 aFq):=by
 have h:Tryz.f275=Body.n265 aFq:=by kernel_rfl
 exact h▸Tryz.func275
theorem shLays106:Lays.n106 Tryz.prog aFq:={mixed:=by kernel_rfl,f106:=shS106,f213:=shS213,f265:=shS265,t3:=Tryz.underlying3,a3:=Tryz.isAgg3,z3:=Tryz.sizeOf3,v3:=Tryz.zeroValue3,t9:=Tryz.underlying9,a9:=Tryz.isAgg9,z9:=Tryz.sizeOf9,v9:=Tryz.zeroValue9}
theorem shLays194:Lays.n194 Tryz.prog aFq:={mixed:=by kernel_rfl,f194:=shS194,t0:=Tryz.underlying0,a0:=Tryz.isAgg0,z0:=Tryz.sizeOf0,v0:=Tryz.zeroValue0,t3:=Tryz.underlying3,a3:=Tryz.isAgg3,z3:=Tryz.sizeOf3,v3:=Tryz.zeroValue3,t4:=Tryz.underlying4,a4:=Tryz.isAgg4,z4:=Tryz.sizeOf4,v4:=Tryz.zeroValue4,t9:=Tryz.underlying9,a9:=Tryz.isAgg9,z9:=Tryz.sizeOf9,v9:=Tryz.zeroValue9,t31:=Tryz.underlying90,a31:=Tryz.isAgg90,z31:=Tryz.sizeOf90,v31:=Tryz.zeroValue90}
end Go.Proofs.YtolnigkhnidkoacGreatDoor
namespace Go.Proofs.YtolnigkhnidkoacGreatDoor.E
open Go.RowKit Go.OB Go.Lf Go.Sort
theorem Fe1w (b:List Str) (v0:Value) (r:List Str) (a:Fe1 b=some r) (O S:List Nat) (w:World) (H:Hd O w w S [.own Rp.str v0 9 b]):
    Calls Tryz.prog 220 ([v0,.func (.func 221) #[] #[]]:List Value).toArray w λe w'=>e= .returned (.tuple #[])/\Hd O w w' S [.own Rp.str v0 9 r]:=by
 unfold Fe1 at a;split at a;rename_i c;have d:=oI a;subst d;exact sortS_own aUk shLays106 H (i:=0) rfl c (enters_of Tryz.func221 (by kernel_rfl) rfl);cases a
theorem Fetw (b:List Str) (v0:Value) (r:List Str) (a:Fet b=some r) (O S:List Nat) (w:World) (H:Hd O w w S [.own Rp.str v0 9 b]):
    Calls Tryz.prog 222 ([v0]:List Value).toArray w λe w'=> ∃u,e= .returned u/\Hd O w w' S [.own Rp.str u 9 r]:=by
 unfold Fet at a;split at a;rename_i c;have d:=oI a;subst d;exact aPw shLays194 H (i:=0) rfl c;cases a
end Go.Proofs.YtolnigkhnidkoacGreatDoor.E
