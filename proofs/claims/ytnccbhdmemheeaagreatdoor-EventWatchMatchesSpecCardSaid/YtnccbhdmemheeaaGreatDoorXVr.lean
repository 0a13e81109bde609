/- Laws that the claim stands on; no condition beyond those stated. -/
import Derived.Test.YtnccbhdmemheeaaGreatDoorXVp
import Derived.Sort.OwnSorted
import Derived.Shelf.SlSortCmp.NoneTotal
import Derived.Shelf.Small.Strs
import Derived.Shelf.Slices.CompactS
import Derived.Test.YtnccbhdmemheeaaGreatDoorRows
import Derived.Shelf.SlLaysF
import Derived.Shelf.Lays
namespace Go.Lf
open Go.RowKit Go.OB Go.Sort Go.Shelf Go.Proofs
def cfS (x y:Str):Int:=Lib.compareBytes x y
theorem ltS: ∀x y:Str,ltOf cfS x y=slt x y
 | [],[]=>rfl
 | [],_::_=>rfl
 |_::_,[]=>rfl
 |a::x,b::y=>by
  have h:=ltS x y;rw [aGb,<-h];unfold ltOf cfS;rw [Lib.compareBytes]
  by_cases c:a<b
  ·simp [c]
  ·by_cases d:b<a
   ·have f: ¬a=b:=λe=>c (e▸d)
    simp [c,d,f]
   ·have f:a=b:=(u8eq a b).2 (by have:=mt (u8lt a b).2 c;have:=mt (u8lt b a).2 d;omega);subst f;simp [c]
theorem swoS:SWO (ltOf cfS) where
 irrefl x:=by rw [ltS];exact vC x
 trans x y z h1 h2:=by rw [ltS]at *;exact sK x y z h1 h2
 ntrans x y z h1 h2:=by rw [ltS]at *;exact aNf x y z h1 h2
variable {P:Program}{ρ ρ':Ren}{O S:List Nat}{w0 w:World}{l:List Th}{i e:Nat}{v:Value}{xl:List Str}
theorem uU: ∀{l:List Str}{F:Nat->Prop}{w:World}{cs:List Value},rows Rp.str F w cs l↔cs=l.map encStr
 | [],_,_,cs=>Iff.rfl
 |x::l,F,w,cs=>by
  constructor
  ·rintro⟨c,d,rfl,a,b⟩;have a:c=[.string (bs x)]:=a;rw [a,uU.1 b];rfl
  ·rintro rfl;exact⟨[.string (bs x)],l.map encStr,rfl,rfl,uU.2 rfl⟩
theorem cmpS (a:Lays.n106 P ρ')(W:World)(x y:Str):Calls P (ρ'.f 106) #[encStr x,encStr y] W λe w'=>e= .returned (.int .i64 (cfS x y))/\w'=W:=Any.strings_Compare a (bs x) (bs y) W
theorem sortS_own (L:SlLaysF.n6 P ρ) (G:Lays.n106 P ρ') (H:Hd O w0 w S l) (hi:l[i]? =some (.own Rp.str v e xl)) (I:xl.length<4611686018427387904)
  (J: ∀args w,(callFunc (ρ'.f 106) args).run P w= .ok (.enter (ρ'.f 106) args) w):
  Calls P (ρ.f 6) #[v,.func (.func (ρ'.f 106)) #[] #[]] w λr w'=>r= .returned (.tuple #[])/\Hd O w0 w' S (l.set i (.own Rp.str v e (aDp xl))):=by
 obtain⟨_,u,K⟩:=H.V hi;have u:=uU.1 u;subst u;have a:=aSy xl;rcases K.2 with ⟨rfl,M⟩|⟨g,cap,s,rfl,_,o,z,A,B,p⟩
 ·have Q:xl=[]:=List.eq_nil_of_length_eq_zero M;subst Q;refine(AnyF.slices_SortFunc_none (P:=P) (ρ:=ρ) {L with} none 0 (.func (.func (ρ'.f 106)) #[] #[]) w).mono λr w' ⟨c,d⟩=>⟨c,?_⟩
  subst d;have R:aDp []=[]:=List.eq_nil_of_length_eq_zero a;have T:l.set i (.own Rp.str (.slice none 0 0) e [])=l:=by
   apply List.ext_getElem?;intro j;rw [List.getElem?_set]
   by_cases D:i=j
   ·subst D;rw [if_pos rfl,if_pos (gS.1 hi).1];exact hi.symm
   ·rw [if_neg D]
  rw [R,T];exact H
 ·have X:Holds encStr w g 0 xl.toArray:=holds_of_block o (by have h:s.toList.take (xl.length*1)=xl.map encStr:=p;rw [Nat.mul_one]at h;exact h);have q:=Any.slices_SortFunc_total L encStr (λ_=>rfl) cfS swoS (ρ'.f 106) #[] g 0 cap xl.toArray w J (λm os _ _ x y=>(cmpS G _ x y).mono λ_ _ ⟨c,d⟩=>⟨c,0, #[],by rw [d,grow_empty];rfl⟩) X (Array.getElem?_eq_some_iff.1 o).1 (by simpa using I) (λx y c d=>by rw [ltS]at c d;exact aFu x y c d);have Y:(λx y:Str=> !ltOf cfS y x)=λx y=> !slt y x:=by funext x y;rw [ltS]
  rw [Y]at q;refine q.mono λr w' ⟨c,n,os,d⟩=>⟨c,?_⟩
  subst d;have t:=grownBy_sorted (w:=w) (g:=g) (n:=n) (os:=os) (aDp xl).toArray;have E:=ownsRow_sorted (base:=0) (n:=n) (os:=os) (ts:=aDp xl) a (Nat.zero_le _) o z A (show s.size=cap*1 from B);refine H.turn hi ⟨t.os,t.tape,t.output,t.size,λk hk C=>t.block k hk (λh=>C ?_)⟩ (λ_=>⟨_,uU.2 rfl,?_⟩) ?_ (aAj _)
  ·simp [Th.blocks,ob,jC]at h⊢;exact h
  ·rw [a];exact E
  ·intro b F;exact⟨.inl F,by have:=aBn E b F;exact this.2⟩
theorem aRa (L:Lays.n194 P ρ) (H:Hd O w0 w S l) (hi:l[i]? =some (.own Rp.str v e xl)) (N:xl.length<=9223372036854775807):
  Calls P (ρ.f 194) #[v] w λr w'=> ∃u,r= .returned u/\Hd O w0 w' S (l.set i (.own Rp.str u e (qM xl))):=by
 obtain⟨_,B,Q⟩:=H.V hi;have B:=uU.1 B;subst B;have a:=cmpS1_len xl;have same: ∀u,l[i]? =some u->l.set i u=l:=by
  intro u R;apply List.ext_getElem?;intro j;rw [List.getElem?_set]
  by_cases J:i=j
  ·subst J;rw [if_pos rfl,if_pos (gS.1 hi).1];exact R.symm
  ·rw [if_neg J]
 rcases Q.2 with ⟨rfl,T⟩|⟨g,cap,p,rfl,_,s,c,C,D,d⟩
 ·have Y:xl=[]:=List.eq_nil_of_length_eq_zero T;subst Y;refine(Any.slices_Compact_string_empty L none 0 w).mono λr w' ⟨E,F⟩=>⟨_,E,?_⟩
  subst F;have e1:qM []=[]:=List.eq_nil_of_length_eq_zero (by simpa using a);rw [e1,same _ hi];exact H
 ·have hH:Holds encStr w g 0 xl.toArray:=holds_of_block s (by have h:p.toList.take (xl.length*1)=xl.map encStr:=d;rw [Nat.mul_one]at h;exact h);refine(Any.slices_Compact_string L g 0 cap xl w hH N c).mono λr w' ⟨E,q,F⟩=>⟨_,E,?_⟩
  subst F;have G:(qM xl++List.replicate (xl.length-(qM xl).length) []).length=xl.length:=by simp;omega
  have o:=grownBy_sorted (w:=w) (g:=g) (n:=q) (os:= #[]) (qM xl++List.replicate (xl.length-(qM xl).length) []).toArray;have K:=ownsRow_sorted (base:=0) (n:=q) (os:= #[]) (ts:=qM xl++List.replicate (xl.length-(qM xl).length) []) G (Nat.zero_le _) s c C (show p.size=cap*1 from D);rw [grow_empty]at o K;have t:(putRow encStr (Sort.ahead w q) g 0 (Lib.compact xl++List.replicate (xl.length-(Lib.compact xl).length) []).toArray).ownsRow 0 e 1 (.slice (some ⟨g,0,none⟩) (qM xl).length cap) (qM xl).length ((qM xl).map encStr):=by
   obtain⟨-,x⟩:=K;rcases x with ⟨x,_⟩|⟨_,_,y,x,h4,h5,_,h7,h8,h9⟩
   ·cases x
   ·cases x
    refine⟨by simp,.inr ⟨g,cap,y,rfl,h4,h5,Nat.le_trans a c,h7,h8,?_⟩⟩;have z:=congrArg (List.take ((qM xl).length*1)) h9;rw [List.take_take,Nat.min_eq_left (by omega)]at z;rw [z,List.map_append,Nat.mul_one,List.take_left' (by simp)]
  refine H.turn hi ⟨o.os,o.tape,o.output,o.size,λk hk I=>o.block k hk (λh=>I ?_)⟩ (λ_=>⟨_,uU.2 rfl,?_⟩) ?_ (aAj _)
  ·simp [Th.blocks,ob,jC]at h⊢;exact h
  ·exact t
  ·intro b A;have A:b∈ob (.slice (some ⟨g,0,none⟩) (qM xl).length cap):=A;refine⟨.inl (by simpa [Th.blocks,ob,jC]using A),by have:=aBn t b A;exact this.2⟩
end Go.Lf
namespace Go.Proofs.YtnccbhdmemheeaaGreatDoor
open Go Go.Shelf Go.Proofs
def bK:Go.Shelf.Ren:=⟨λn=>match n with |6=>68|14=>109|15=>110|20=>141|21=>142|22=>143|23=>144|24=>145|25=>146|26=>147|27=>148|28=>149|29=>150|46=>170|47=>171|48=>172|49=>173|50=>174|57=>186|_=>0,λn=>match n with |0=>0|3=>3|4=>4|5=>5|9=>9|22=>22|24=>9|25=>171|39=>208|45=>231|46=>232|50=>236|53=>239|55=>241|66=>257|70=>226|76=>270|77=>271|_=>0,λn=>match n with |_=>0⟩
set_option maxRecDepth 100000 in
theorem shG6:Bears Tryz.prog (bK.f 6) (SlBodyF.n6 bK):=by
 have h:Tryz.f68={SlBodyF.n6 bK with name:= "slices.SortFunc[[]string,string]" }:=by kernel_rfl
 exact⟨ "slices.SortFunc[[]string,string]",by kernel_rfl,h▸Tryz.func68⟩
set_option maxRecDepth 100000 in
theorem shG14:Bears Tryz.prog (bK.f 14) (SlBodyF.n14 bK):=by
 have h:Tryz.f109={SlBodyF.n14 bK with name:= "slices.pdqsortCmpFunc[string]" }:=by kernel_rfl
 exact⟨ "slices.pdqsortCmpFunc[string]",by kernel_rfl,h▸Tryz.func109⟩
set_option maxRecDepth 100000 in
theorem shG15:Tryz.prog.funcs[bK.f 15]? =some (SlBodyF.n15 bK):=by
 have h:Tryz.f110=SlBodyF.n15 bK:=by kernel_rfl
 exact h▸Tryz.func110
set_option maxRecDepth 100000 in
theorem shG20:Bears Tryz.prog (bK.f 20) (SlBodyF.n20 bK):=by
 have h:Tryz.f141={SlBodyF.n20 bK with name:= "slices.insertionSortCmpFunc[string]" }:=by kernel_rfl
 exact⟨ "slices.insertionSortCmpFunc[string]",by kernel_rfl,h▸Tryz.func141⟩
set_option maxRecDepth 100000 in
theorem shG21:Bears Tryz.prog (bK.f 21) (SlBodyF.n21 bK):=by
 have h:Tryz.f142={SlBodyF.n21 bK with name:= "slices.heapSortCmpFunc[string]" }:=by kernel_rfl
 exact⟨ "slices.heapSortCmpFunc[string]",by kernel_rfl,h▸Tryz.func142⟩
set_option maxRecDepth 100000 in
theorem shG22:Bears Tryz.prog (bK.f 22) (SlBodyF.n22 bK):=by
 have h:Tryz.f143={SlBodyF.n22 bK with name:= "slices.breakPatternsCmpFunc[string]" }:=by kernel_rfl
 exact⟨ "slices.breakPatternsCmpFunc[string]",by kernel_rfl,h▸Tryz.func143⟩
set_option maxRecDepth 100000 in
theorem shG23:Bears Tryz.prog (bK.f 23) (SlBodyF.n23 bK):=by
 have h:Tryz.f144={SlBodyF.n23 bK with name:= "slices.choosePivotCmpFunc[string]" }:=by kernel_rfl
 exact⟨ "slices.choosePivotCmpFunc[string]",by kernel_rfl,h▸Tryz.func144⟩
set_option maxRecDepth 100000 in
theorem shG24:Bears Tryz.prog (bK.f 24) (SlBodyF.n24 bK):=by
 have h:Tryz.f145={SlBodyF.n24 bK with name:= "slices.reverseRangeCmpFunc[string]" }:=by kernel_rfl
 exact⟨ "slices.reverseRangeCmpFunc[string]",by kernel_rfl,h▸Tryz.func145⟩
set_option maxRecDepth 100000 in
theorem shG25:Bears Tryz.prog (bK.f 25) (SlBodyF.n25 bK):=by
 have h:Tryz.f146={SlBodyF.n25 bK with name:= "slices.partialInsertionSortCmpFunc[string]" }:=by kernel_rfl
 exact⟨ "slices.partialInsertionSortCmpFunc[string]",by kernel_rfl,h▸Tryz.func146⟩
set_option maxRecDepth 100000 in
theorem shG26:Bears Tryz.prog (bK.f 26) (SlBodyF.n26 bK):=by
 have h:Tryz.f147={SlBodyF.n26 bK with name:= "slices.partitionEqualCmpFunc[string]" }:=by kernel_rfl
 exact⟨ "slices.partitionEqualCmpFunc[string]",by kernel_rfl,h▸Tryz.func147⟩
set_option maxRecDepth 100000 in
theorem shG27:Bears Tryz.prog (bK.f 27) (SlBodyF.n27 bK):=by
 have h:Tryz.f148={SlBodyF.n27 bK with name:= "slices.partitionCmpFunc[string]" }:=by kernel_rfl
 exact⟨ "slices.partitionCmpFunc[string]",by kernel_rfl,h▸Tryz.func148⟩
set_option maxRecDepth 100000 in
theorem shG28:Tryz.prog.funcs[bK.f 28]? =some (SlBodyF.n28 bK):=by
 have h:Tryz.f149=SlBodyF.n28 bK:=by kernel_rfl
 exact h▸Tryz.func149
set_option maxRecDepth 100000 in
theorem shG29:Tryz.prog.funcs[bK.f 29]? =some (SlBodyF.n29 bK):=by
 have h:Tryz.f150=SlBodyF.n29 bK:=by kernel_rfl
 exact h▸Tryz.func150
set_option maxRecDepth 100000 in
theorem shG46:Bears Tryz.prog (bK.f 46) (SlBodyF.n46 bK):=by
 have h:Tryz.f170={SlBodyF.n46 bK with name:= "slices.siftDownCmpFunc[string]" }:=by kernel_rfl
 exact⟨ "slices.siftDownCmpFunc[string]",by kernel_rfl,h▸Tryz.func170⟩
set_option maxRecDepth 100000 in
theorem shG47:Tryz.prog.funcs[bK.f 47]? =some (SlBodyF.n47 bK):=by
 have h:Tryz.f171=SlBodyF.n47 bK:=by kernel_rfl
 exact h▸Tryz.func171
set_option maxRecDepth 100000 in
theorem shG48:Tryz.prog.funcs[bK.f 48]? =some (SlBodyF.n48 bK):=by
 have h:Tryz.f172=SlBodyF.n48 bK:=by kernel_rfl
 exact h▸Tryz.func172
set_option maxRecDepth 100000 in
theorem shG49:Bears Tryz.prog (bK.f 49) (SlBodyF.n49 bK):=by
 have h:Tryz.f173={SlBodyF.n49 bK with name:= "slices.medianAdjacentCmpFunc[string]" }:=by kernel_rfl
 exact⟨ "slices.medianAdjacentCmpFunc[string]",by kernel_rfl,h▸Tryz.func173⟩
set_option maxRecDepth 100000 in
theorem shG50:Bears Tryz.prog (bK.f 50) (SlBodyF.n50 bK):=by
 have h:Tryz.f174={SlBodyF.n50 bK with name:= "slices.medianCmpFunc[string]" }:=by kernel_rfl
 exact⟨ "slices.medianCmpFunc[string]",by kernel_rfl,h▸Tryz.func174⟩
set_option maxRecDepth 100000 in
theorem shG57:Bears Tryz.prog (bK.f 57) (SlBodyF.n57 bK):=by
 have h:Tryz.f186={SlBodyF.n57 bK with name:= "slices.order2CmpFunc[string]" }:=by kernel_rfl
 exact⟨ "slices.order2CmpFunc[string]",by kernel_rfl,h▸Tryz.func186⟩
theorem aWq:SlLaysF.n6 Tryz.prog bK:={mixed:=by kernel_rfl,f6:=shG6,f14:=shG14,f15:=shG15,f20:=shG20,f21:=shG21,f22:=shG22,f23:=shG23,f24:=shG24,f25:=shG25,f26:=shG26,f27:=shG27,f28:=shG28,f29:=shG29,f46:=shG46,f47:=shG47,f48:=shG48,f49:=shG49,f50:=shG50,f57:=shG57,t0:=Tryz.underlying0,a0:=Tryz.isAgg0,z0:=Tryz.sizeOf0,v0:=Tryz.zeroValue0,t3:=Tryz.underlying3,a3:=Tryz.isAgg3,z3:=Tryz.sizeOf3,v3:=Tryz.zeroValue3,t4:=Tryz.underlying4,a4:=Tryz.isAgg4,z4:=Tryz.sizeOf4,v4:=Tryz.zeroValue4,t5:=Tryz.underlying5,a5:=Tryz.isAgg5,z5:=Tryz.sizeOf5,v5:=Tryz.zeroValue5,t9:=Tryz.underlying9,a9:=Tryz.isAgg9,z9:=Tryz.sizeOf9,v9:=Tryz.zeroValue9,t22:=Tryz.underlying22,a22:=Tryz.isAgg22,z22:=Tryz.sizeOf22,v22:=Tryz.zeroValue22,a24:=Tryz.isAgg9,z24:=Tryz.sizeOf9,t25:=Tryz.underlying171,a25:=Tryz.isAgg171,z25:=Tryz.sizeOf171,v25:=Tryz.zeroValue171,t39:=Tryz.underlying208,a39:=Tryz.isAgg208,z39:=Tryz.sizeOf208,v39:=Tryz.zeroValue208,t45:=Tryz.underlying231,a45:=Tryz.isAgg231,z45:=Tryz.sizeOf231,v45:=Tryz.zeroValue231,t46:=Tryz.underlying232,a46:=Tryz.isAgg232,z46:=Tryz.sizeOf232,v46:=Tryz.zeroValue232,t50:=Tryz.underlying236,a50:=Tryz.isAgg236,z50:=Tryz.sizeOf236,v50:=Tryz.zeroValue236,t53:=Tryz.underlying239,a53:=Tryz.isAgg239,z53:=Tryz.sizeOf239,v53:=Tryz.zeroValue239,t55:=Tryz.underlying241,a55:=Tryz.isAgg241,z55:=Tryz.sizeOf241,v55:=Tryz.zeroValue241,t66:=Tryz.underlying257,a66:=Tryz.isAgg257,z66:=Tryz.sizeOf257,v66:=Tryz.zeroValue257,t70:=Tryz.underlying226,a70:=Tryz.isAgg226,z70:=Tryz.sizeOf226,v70:=Tryz.zeroValue226,t76:=Tryz.underlying270,a76:=Tryz.isAgg270,z76:=Tryz.sizeOf270,v76:=Tryz.zeroValue270,t77:=Tryz.underlying271,a77:=Tryz.isAgg271,z77:=Tryz.sizeOf271,v77:=Tryz.zeroValue271}
def aFq:Go.Shelf.Ren:=⟨λn=>match n with |106=>69|194=>70|213=>111|265=>151|_=>0,λn=>match n with |0=>0|3=>3|4=>4|9=>9|31=>22|_=>0,λn=>match n with |_=>0⟩
set_option maxRecDepth 100000 in
theorem shS106:Tryz.prog.funcs[aFq.f 106]? =some (Body.n106 aFq):=by
 have h:Tryz.f69=Body.n106 aFq:=by kernel_rfl
 exact h▸Tryz.func69
set_option maxRecDepth 100000 in
theorem shS194:Tryz.prog.funcs[aFq.f 194]? =some (Body.n194 aFq):=by
 have h:Tryz.f70=Body.n194 aFq:=by kernel_rfl
 exact h▸Tryz.func70
set_option maxRecDepth 100000 in
theorem shS213:Tryz.prog.funcs[aFq.f 213]? =some (Body.n213 aFq):=by
 have h:Tryz.f111=Body.n213 aFq:=by kernel_rfl
 exact h▸Tryz.func111
set_option maxRecDepth 100000 in
theorem shS265:Tryz.prog.funcs[aFq.f 265]? =some (Body.n265 aFq):=by
 have h:Tryz.f151=Body.n265 aFq:=by kernel_rfl
 exact h▸Tryz.func151
theorem shLays106:Lays.n106 Tryz.prog aFq:={mixed:=by kernel_rfl,f106:=shS106,f213:=shS213,f265:=shS265,t3:=Tryz.underlying3,a3:=Tryz.isAgg3,z3:=Tryz.sizeOf3,v3:=Tryz.zeroValue3,t9:=Tryz.underlying9,a9:=Tryz.isAgg9,z9:=Tryz.sizeOf9,v9:=Tryz.zeroValue9}
theorem shLays194:Lays.n194 Tryz.prog aFq:={mixed:=by kernel_rfl,f194:=shS194,t0:=Tryz.underlying0,a0:=Tryz.isAgg0,z0:=Tryz.sizeOf0,v0:=Tryz.zeroValue0,t3:=Tryz.underlying3,a3:=Tryz.isAgg3,z3:=Tryz.sizeOf3,v3:=Tryz.zeroValue3,t4:=Tryz.underlying4,a4:=Tryz.isAgg4,z4:=Tryz.sizeOf4,v4:=Tryz.zeroValue4,t9:=Tryz.underlying9,a9:=Tryz.isAgg9,z9:=Tryz.sizeOf9,v9:=Tryz.zeroValue9,t31:=Tryz.underlying22,a31:=Tryz.isAgg22,z31:=Tryz.sizeOf22,v31:=Tryz.zeroValue22}
end Go.Proofs.YtnccbhdmemheeaaGreatDoor
namespace Go.Proofs.YtnccbhdmemheeaaGreatDoor.E
open Go.RowKit Go.OB Go.Lf Go.Sort
theorem Fexw (b:List Str) (v0:Value) (r:List Str) (a:Fex b=some r) (O S:List Nat) (w:World) (H:Hd O w w S [.own Rp.str v0 9 b]):
    Calls Tryz.prog 68 ([v0,.func (.func 69) #[] #[]]:List Value).toArray w λe w'=>e= .returned (.tuple #[])/\Hd O w w' S [.own Rp.str v0 9 r]:=by
 unfold Fex at a;split at a;rename_i c;have d:=oI a;subst d;exact sortS_own aWq shLays106 H (i:=0) rfl c (enters_of Tryz.func69 (by kernel_rfl) rfl);cases a
theorem Fdtw (b:List Str) (v0:Value) (r:List Str) (a:Fdt b=some r) (O S:List Nat) (w:World) (H:Hd O w w S [.own Rp.str v0 9 b]):
    Calls Tryz.prog 70 ([v0]:List Value).toArray w λe w'=> ∃u,e= .returned u/\Hd O w w' S [.own Rp.str u 9 r]:=by
 unfold Fdt at a;split at a;rename_i c;have d:=oI a;subst d;exact aRa shLays194 H (i:=0) rfl c;cases a
end Go.Proofs.YtnccbhdmemheeaaGreatDoor.E
