/- Laws that the claim stands on; no condition beyond those stated. -/
import Derived.Test.YtibkjjklfhfipacGreatDoorXVp
import Derived.Sort.OwnSorted
import Derived.Shelf.SlSortCmp.NoneTotal
import Derived.Shelf.Small.Strs
import Derived.Shelf.Slices.CompactS
import Derived.Test.YtibkjjklfhfipacGreatDoorRows
import Derived.Shelf.SlLaysF
import Derived.Shelf.Lays
namespace Go.Lf
open Go.RowKit Go.OB Go.Sort Go.Shelf Go.Proofs
def cfS (x y:Str):Int:=Lib.compareBytes x y
theorem ltS: ∀x y:Str,ltOf cfS x y=slt x y
 | [],[]=>rfl
 | [],_::_=>rfl
 |_::_,[]=>rfl
 |a::x,b::y=>by
  have h:=ltS x y;rw [aIz,<-h];unfold ltOf cfS;rw [Lib.compareBytes]
  by_cases c:a<b
  ·simp [c]
  ·by_cases d:b<a
   ·have f: ¬a=b:=λe=>c (e▸d)
    simp [c,d,f]
   ·have f:a=b:=(u8eq a b).2 (by have:=mt (u8lt a b).2 c;have:=mt (u8lt b a).2 d;omega);subst f;simp [c]
theorem swoS:SWO (ltOf cfS) where
 irrefl x:=by rw [ltS];exact jO x
 trans x y z h1 h2:=by rw [ltS]at *;exact tH x y z h1 h2
 ntrans x y z h1 h2:=by rw [ltS]at *;exact aRa x y z h1 h2
variable {P:Program}{ρ ρ':Ren}{O S:List Nat}{w0 w:World}{l:List Th}{i e:Nat}{v:Value}{xl:List Str}
theorem wJ: ∀{l:List Str}{F:Nat->Prop}{w:World}{cs:List Value},rows Rp.str F w cs l↔cs=l.map encStr
 | [],_,_,cs=>Iff.rfl
 |x::l,F,w,cs=>by
  constructor
  ·rintro⟨c,d,rfl,a,b⟩;have a:c=[.string (bs x)]:=a;rw [a,wJ.1 b];rfl
  ·rintro rfl;exact⟨[.string (bs x)],l.map encStr,rfl,rfl,wJ.2 rfl⟩
theorem cmpS (a:Lays.n106 P ρ')(W:World)(x y:Str):Calls P (ρ'.f 106) #[encStr x,encStr y] W λe w'=>e= .returned (.int .i64 (cfS x y))/\w'=W:=Any.strings_Compare a (bs x) (bs y) W
theorem sortS_own (L:SlLaysF.n6 P ρ) (J:Lays.n106 P ρ') (H:Hd O w0 w S l) (hi:l[i]? =some (.own Rp.str v e xl)) (K:xl.length<4611686018427387904)
  (M: ∀c w,(callFunc (ρ'.f 106) c).run P w= .ok (.enter (ρ'.f 106) c) w):
  Calls P (ρ.f 6) #[v,.func (.func (ρ'.f 106)) #[] #[]] w λr w'=>r= .returned (.tuple #[])/\Hd O w0 w' S (l.set i (.own Rp.str v e (rE xl))):=by
 obtain⟨_,A,N⟩:=H.V hi;have A:=wJ.1 A;subst A;have a:=bBw xl;rcases N.2 with ⟨rfl,Q⟩|⟨g,t,u,rfl,_,p,B,C,D,s⟩
 ·have T:xl=[]:=List.eq_nil_of_length_eq_zero Q;subst T;refine(AnyF.slices_SortFunc_none (P:=P) (ρ:=ρ) {L with} none 0 (.func (.func (ρ'.f 106)) #[] #[]) w).mono λr w' ⟨d,o⟩=>⟨d,?_⟩
  subst o;have X:rE []=[]:=List.eq_nil_of_length_eq_zero a;have Y:l.set i (.own Rp.str (.slice none 0 0) e [])=l:=by
   apply List.ext_getElem?;intro j;rw [List.getElem?_set]
   by_cases F:i=j
   ·subst F;rw [if_pos rfl,if_pos (gS.1 hi).1];exact hi.symm
   ·rw [if_neg F]
  rw [X,Y];exact H
 ·have hH:Holds encStr w g 0 xl.toArray:=holds_of_block p (by have h:u.toList.take (xl.length*1)=xl.map encStr:=s;rw [Nat.mul_one]at h;exact h);have q:=Any.slices_SortFunc_total L encStr (λ_=>rfl) cfS swoS (ρ'.f 106) #[] g 0 t xl.toArray w M (λm os _ _ x y=>(cmpS J _ x y).mono λ_ _ ⟨d,o⟩=>⟨d,0, #[],by rw [o,grow_empty];rfl⟩) hH (Array.getElem?_eq_some_iff.1 p).1 (by simpa using K) (λx y d o=>by rw [ltS]at d o;exact aHw x y d o);have e3:(λx y:Str=> !ltOf cfS y x)=λx y=> !slt y x:=by funext x y;rw [ltS]
  rw [e3]at q;refine q.mono λr w' ⟨d,n,os,o⟩=>⟨d,?_⟩
  subst o;have z:=grownBy_sorted (w:=w) (g:=g) (n:=n) (os:=os) (rE xl).toArray;have G:=ownsRow_sorted (base:=0) (n:=n) (os:=os) (ts:=rE xl) a (Nat.zero_le _) p B C (show u.size=t*1 from D);refine H.turn hi ⟨z.os,z.tape,z.output,z.size,λk hk E=>z.block k hk (λh=>E ?_)⟩ (λ_=>⟨_,wJ.2 rfl,?_⟩) ?_ (aAs _)
  ·simp [Th.blocks,ob,kM]at h⊢;exact h
  ·rw [a];exact G
  ·intro b I;exact⟨.inl I,by have:=aAp G b I;exact this.2⟩
theorem aWb (L:Lays.n194 P ρ) (H:Hd O w0 w S l) (hi:l[i]? =some (.own Rp.str v e xl)) (Q:xl.length<=9223372036854775807):
  Calls P (ρ.f 194) #[v] w λr w'=> ∃u,r= .returned u/\Hd O w0 w' S (l.set i (.own Rp.str u e (aQ xl))):=by
 obtain⟨_,C,R⟩:=H.V hi;have C:=wJ.1 C;subst C;have c:=cmpS1_len xl;have same: ∀u,l[i]? =some u->l.set i u=l:=by
  intro u T;apply List.ext_getElem?;intro j;rw [List.getElem?_set]
  by_cases K:i=j
  ·subst K;rw [if_pos rfl,if_pos (gS.1 hi).1];exact T.symm
  ·rw [if_neg K]
 rcases R.2 with ⟨rfl,X⟩|⟨g,a,s,rfl,_,t,d,D,E,o⟩
 ·have hx:xl=[]:=List.eq_nil_of_length_eq_zero X;subst hx;refine(Any.slices_Compact_string_empty L none 0 w).mono λr w' ⟨F,G⟩=>⟨_,F,?_⟩
  subst G;have e1:aQ []=[]:=List.eq_nil_of_length_eq_zero (by simpa using c);rw [e1,same _ hi];exact H
 ·have hH:Holds encStr w g 0 xl.toArray:=holds_of_block t (by have h:s.toList.take (xl.length*1)=xl.map encStr:=o;rw [Nat.mul_one]at h;exact h);refine(Any.slices_Compact_string L g 0 a xl w hH Q d).mono λr w' ⟨F,q,G⟩=>⟨_,F,?_⟩
  subst G;have I:(aQ xl++List.replicate (xl.length-(aQ xl).length) []).length=xl.length:=by simp;omega
  have p:=grownBy_sorted (w:=w) (g:=g) (n:=q) (os:= #[]) (aQ xl++List.replicate (xl.length-(aQ xl).length) []).toArray;have M:=ownsRow_sorted (base:=0) (n:=q) (os:= #[]) (ts:=aQ xl++List.replicate (xl.length-(aQ xl).length) []) I (Nat.zero_le _) t d D (show s.size=a*1 from E);rw [grow_empty]at p M;have x:(putRow encStr (Sort.ahead w q) g 0 (Lib.compact xl++List.replicate (xl.length-(Lib.compact xl).length) []).toArray).ownsRow 0 e 1 (.slice (some ⟨g,0,none⟩) (aQ xl).length a) (aQ xl).length ((aQ xl).map encStr):=by
   obtain⟨-,y⟩:=M;rcases y with ⟨y,_⟩|⟨_,_,z,y,h4,h5,_,h7,h8,h9⟩
   ·cases y
   ·cases y
    refine⟨by simp,.inr ⟨g,a,z,rfl,h4,h5,Nat.le_trans c d,h7,h8,?_⟩⟩;have A:=congrArg (List.take ((aQ xl).length*1)) h9;rw [List.take_take,Nat.min_eq_left (by omega)]at A;rw [A,List.map_append,Nat.mul_one,List.take_left' (by simp)]
  refine H.turn hi ⟨p.os,p.tape,p.output,p.size,λk hk J=>p.block k hk (λh=>J ?_)⟩ (λ_=>⟨_,wJ.2 rfl,?_⟩) ?_ (aAs _)
  ·simp [Th.blocks,ob,kM]at h⊢;exact h
  ·exact x
  ·intro b B;have B:b∈ob (.slice (some ⟨g,0,none⟩) (aQ xl).length a):=B;refine⟨.inl (by simpa [Th.blocks,ob,kM]using B),by have:=aAp x b B;exact this.2⟩
end Go.Lf
namespace Go.Proofs.YtibkjjklfhfipacGreatDoor
open Go Go.Shelf Go.Proofs
def bT:Go.Shelf.Ren:=⟨λn=>match n with |6=>148|14=>165|15=>166|20=>174|21=>175|22=>176|23=>177|24=>178|25=>179|26=>180|27=>181|28=>182|29=>143|46=>187|47=>188|48=>189|49=>190|50=>191|57=>192|_=>0,λn=>match n with |0=>0|3=>3|4=>4|5=>5|9=>9|22=>23|24=>9|25=>210|39=>206|45=>262|46=>263|50=>55|53=>204|55=>169|66=>270|70=>147|76=>275|77=>276|_=>0,λn=>match n with |_=>0⟩
set_option maxRecDepth 100000 in
theorem shG6:Bears Tryz.prog (bT.f 6) (SlBodyF.n6 bT):=by
 have h:Tryz.f148={SlBodyF.n6 bT with name:= "slices.SortFunc[[]string,string]" }:=by kernel_rfl
 exact⟨ "slices.SortFunc[[]string,string]",by kernel_rfl,h▸Tryz.func148⟩
set_option maxRecDepth 100000 in
theorem shG14:Bears Tryz.prog (bT.f 14) (SlBodyF.n14 bT):=by
 have h:Tryz.f165={SlBodyF.n14 bT with name:= "slices.pdqsortCmpFunc[string]" }:=by kernel_rfl
 exact⟨ "slices.pdqsortCmpFunc[string]",by kernel_rfl,h▸Tryz.func165⟩
set_option maxRecDepth 100000 in
theorem shG15:Tryz.prog.funcs[bT.f 15]? =some (SlBodyF.n15 bT):=by
 have h:Tryz.f166=SlBodyF.n15 bT:=by kernel_rfl
 exact h▸Tryz.func166
set_option maxRecDepth 100000 in
theorem shG20:Bears Tryz.prog (bT.f 20) (SlBodyF.n20 bT):=by
 have h:Tryz.f174={SlBodyF.n20 bT with name:= "slices.insertionSortCmpFunc[string]" }:=by kernel_rfl
 exact⟨ "slices.insertionSortCmpFunc[string]",by kernel_rfl,h▸Tryz.func174⟩
set_option maxRecDepth 100000 in
theorem shG21:Bears Tryz.prog (bT.f 21) (SlBodyF.n21 bT):=by
 have h:Tryz.f175={SlBodyF.n21 bT with name:= "slices.heapSortCmpFunc[string]" }:=by kernel_rfl
 exact⟨ "slices.heapSortCmpFunc[string]",by kernel_rfl,h▸Tryz.func175⟩
set_option maxRecDepth 100000 in
theorem shG22:Bears Tryz.prog (bT.f 22) (SlBodyF.n22 bT):=by
 have h:Tryz.f176={SlBodyF.n22 bT with name:= "slices.breakPatternsCmpFunc[string]" }:=by kernel_rfl
 exact⟨ "slices.breakPatternsCmpFunc[string]",by kernel_rfl,h▸Tryz.func176⟩
set_option maxRecDepth 100000 in
theorem shG23:Bears Tryz.prog (bT.f 23) (SlBodyF.n23 bT):=by
 have h:Tryz.f177={SlBodyF.n23 bT with name:= "slices.choosePivotCmpFunc[string]" }:=by kernel_rfl
 exact⟨ "slices.choosePivotCmpFunc[string]",by kernel_rfl,h▸Tryz.func177⟩
set_option maxRecDepth 100000 in
theorem shG24:Bears Tryz.prog (bT.f 24) (SlBodyF.n24 bT):=by
 have h:Tryz.f178={SlBodyF.n24 bT with name:= "slices.reverseRangeCmpFunc[string]" }:=by kernel_rfl
 exact⟨ "slices.reverseRangeCmpFunc[string]",by kernel_rfl,h▸Tryz.func178⟩
set_option maxRecDepth 100000 in
theorem shG25:Bears Tryz.prog (bT.f 25) (SlBodyF.n25 bT):=by
 have h:Tryz.f179={SlBodyF.n25 bT with name:= "slices.partialInsertionSortCmpFunc[string]" }:=by kernel_rfl
 exact⟨ "slices.partialInsertionSortCmpFunc[string]",by kernel_rfl,h▸Tryz.func179⟩
set_option maxRecDepth 100000 in
theorem shG26:Bears Tryz.prog (bT.f 26) (SlBodyF.n26 bT):=by
 have h:Tryz.f180={SlBodyF.n26 bT with name:= "slices.partitionEqualCmpFunc[string]" }:=by kernel_rfl
 exact⟨ "slices.partitionEqualCmpFunc[string]",by kernel_rfl,h▸Tryz.func180⟩
set_option maxRecDepth 100000 in
theorem shG27:Bears Tryz.prog (bT.f 27) (SlBodyF.n27 bT):=by
 have h:Tryz.f181={SlBodyF.n27 bT with name:= "slices.partitionCmpFunc[string]" }:=by kernel_rfl
 exact⟨ "slices.partitionCmpFunc[string]",by kernel_rfl,h▸Tryz.func181⟩
set_option maxRecDepth 100000 in
theorem shG28:Tryz.prog.funcs[bT.f 28]? =some (SlBodyF.n28 bT):=by
 have h:Tryz.f182=SlBodyF.n28 bT:=by kernel_rfl
 exact h▸Tryz.func182
set_option maxRecDepth 100000 in
theorem shG29:Tryz.prog.funcs[bT.f 29]? =some (SlBodyF.n29 bT):=by
 have h:Tryz.f143=SlBodyF.n29 bT:=by kernel_rfl
 exact h▸Tryz.func143
set_option maxRecDepth 100000 in
theorem shG46:Bears Tryz.prog (bT.f 46) (SlBodyF.n46 bT):=by
 have h:Tryz.f187={SlBodyF.n46 bT with name:= "slices.siftDownCmpFunc[string]" }:=by kernel_rfl
 exact⟨ "slices.siftDownCmpFunc[string]",by kernel_rfl,h▸Tryz.func187⟩
set_option maxRecDepth 100000 in
theorem shG47:Tryz.prog.funcs[bT.f 47]? =some (SlBodyF.n47 bT):=by
 have h:Tryz.f188=SlBodyF.n47 bT:=by kernel_rfl
 exact h▸Tryz.func188
set_option maxRecDepth 100000 in
theorem shG48:Tryz.prog.funcs[bT.f 48]? =some (SlBodyF.n48 bT):=by
 have h:Tryz.f189=SlBodyF.n48 bT:=by kernel_rfl
 exact h▸Tryz.func189
set_option maxRecDepth 100000 in
theorem shG49:Bears Tryz.prog (bT.f 49) (SlBodyF.n49 bT):=by
 have h:Tryz.f190={SlBodyF.n49 bT with name:= "slices.medianAdjacentCmpFunc[string]" }:=by kernel_rfl
 exact⟨ "slices.medianAdjacentCmpFunc[string]",by kernel_rfl,h▸Tryz.func190⟩
set_option maxRecDepth 100000 in
theorem shG50:Bears Tryz.prog (bT.f 50) (SlBodyF.n50 bT):=by
 have h:Tryz.f191={SlBodyF.n50 bT with name:= "slices.medianCmpFunc[string]" }:=by kernel_rfl
 exact⟨ "slices.medianCmpFunc[string]",by kernel_rfl,h▸Tryz.func191⟩
set_option maxRecDepth 100000 in
theorem shG57:Bears Tryz.prog (bT.f 57) (SlBodyF.n57 bT):=by
 have h:Tryz.f192={SlBodyF.n57 bT with name:= "slices.order2CmpFunc[string]" }:=by kernel_rfl
 exact⟨ "slices.order2CmpFunc[string]",by kernel_rfl,h▸Tryz.func192⟩
theorem bDr:SlLaysF.n6 Tryz.prog bT:={mixed:=by kernel_rfl,f6:=shG6,f14:=shG14,f15:=shG15,f20:=shG20,f21:=shG21,f22:=shG22,f23:=shG23,f24:=shG24,f25:=shG25,f26:=shG26,f27:=shG27,f28:=shG28,f29:=shG29,f46:=shG46,f47:=shG47,f48:=shG48,f49:=shG49,f50:=shG50,f57:=shG57,t0:=Tryz.underlying0,a0:=Tryz.isAgg0,z0:=Tryz.sizeOf0,v0:=Tryz.zeroValue0,t3:=Tryz.underlying3,a3:=Tryz.isAgg3,z3:=Tryz.sizeOf3,v3:=Tryz.zeroValue3,t4:=Tryz.underlying4,a4:=Tryz.isAgg4,z4:=Tryz.sizeOf4,v4:=Tryz.zeroValue4,t5:=Tryz.underlying5,a5:=Tryz.isAgg5,z5:=Tryz.sizeOf5,v5:=Tryz.zeroValue5,t9:=Tryz.underlying9,a9:=Tryz.isAgg9,z9:=Tryz.sizeOf9,v9:=Tryz.zeroValue9,t22:=Tryz.underlying23,a22:=Tryz.isAgg23,z22:=Tryz.sizeOf23,v22:=Tryz.zeroValue23,a24:=Tryz.isAgg9,z24:=Tryz.sizeOf9,t25:=Tryz.underlying210,a25:=Tryz.isAgg210,z25:=Tryz.sizeOf210,v25:=Tryz.zeroValue210,t39:=Tryz.underlying206,a39:=Tryz.isAgg206,z39:=Tryz.sizeOf206,v39:=Tryz.zeroValue206,t45:=Tryz.underlying262,a45:=Tryz.isAgg262,z45:=Tryz.sizeOf262,v45:=Tryz.zeroValue262,t46:=Tryz.underlying263,a46:=Tryz.isAgg263,z46:=Tryz.sizeOf263,v46:=Tryz.zeroValue263,t50:=Tryz.underlying55,a50:=Tryz.isAgg55,z50:=Tryz.sizeOf55,v50:=Tryz.zeroValue55,t53:=Tryz.underlying204,a53:=Tryz.isAgg204,z53:=Tryz.sizeOf204,v53:=Tryz.zeroValue204,t55:=Tryz.underlying169,a55:=Tryz.isAgg169,z55:=Tryz.sizeOf169,v55:=Tryz.zeroValue169,t66:=Tryz.underlying270,a66:=Tryz.isAgg270,z66:=Tryz.sizeOf270,v66:=Tryz.zeroValue270,t70:=Tryz.underlying147,a70:=Tryz.isAgg147,z70:=Tryz.sizeOf147,v70:=Tryz.zeroValue147,t76:=Tryz.underlying275,a76:=Tryz.isAgg275,z76:=Tryz.sizeOf275,v76:=Tryz.zeroValue275,t77:=Tryz.underlying276,a77:=Tryz.isAgg276,z77:=Tryz.sizeOf276,v77:=Tryz.zeroValue276}
def aJi:Go.Shelf.Ren:=⟨λn=>match n with |106=>149|194=>150|213=>167|265=>183|_=>0,λn=>match n with |0=>0|3=>3|4=>4|9=>9|31=>23|_=>0,λn=>match n with |_=>0⟩
set_option maxRecDepth 100000 in
theorem shS106:Tryz.prog.funcs[aJi.f 106]? =some (Body.n106 aJi):=by
 have h:Tryz.f149=Body.n106 aJi:=by kernel_rfl
 exact h▸Tryz.func149
set_option maxRecDepth 100000 in
theorem shS194:Tryz.prog.funcs[aJi.f 194]? =some (Body.n194 aJi):=by
 have h:Tryz.f150=Body.n194 aJi:=by kernel_rfl
 exact h▸Tryz.func150
set_option maxRecDepth 100000 in
theorem shS213:Tryz.prog.funcs[aJi.f 213]? =some (Body.n213 aJi):=by
 have h:Tryz.f167=Body.n213 aJi:=by kernel_rfl
 exact h▸Tryz.func167
set_option maxRecDepth 100000 in
theorem shS265:Tryz.prog.funcs[aJi.f 265]? =some (Body.n265 aJi):=by
 have h:Tryz.f183=Body.n265 aJi:=by kernel_rfl
 exact h▸Tryz.func183
theorem shLays106:Lays.n106 Tryz.prog aJi:={mixed:=by kernel_rfl,f106:=shS106,f213:=shS213,f265:=shS265,t3:=Tryz.underlying3,a3:=Tryz.isAgg3,z3:=Tryz.sizeOf3,v3:=Tryz.zeroValue3,t9:=Tryz.underlying9,a9:=Tryz.isAgg9,z9:=Tryz.sizeOf9,v9:=Tryz.zeroValue9}
theorem shLays194:Lays.n194 Tryz.prog aJi:={mixed:=by kernel_rfl,f194:=shS194,t0:=Tryz.underlying0,a0:=Tryz.isAgg0,z0:=Tryz.sizeOf0,v0:=Tryz.zeroValue0,t3:=Tryz.underlying3,a3:=Tryz.isAgg3,z3:=Tryz.sizeOf3,v3:=Tryz.zeroValue3,t4:=Tryz.underlying4,a4:=Tryz.isAgg4,z4:=Tryz.sizeOf4,v4:=Tryz.zeroValue4,t9:=Tryz.underlying9,a9:=Tryz.isAgg9,z9:=Tryz.sizeOf9,v9:=Tryz.zeroValue9,t31:=Tryz.underlying23,a31:=Tryz.isAgg23,z31:=Tryz.sizeOf23,v31:=Tryz.zeroValue23}
end Go.Proofs.YtibkjjklfhfipacGreatDoor
namespace Go.Proofs.YtibkjjklfhfipacGreatDoor.E
open Go.RowKit Go.OB Go.Lf Go.Sort
theorem Fflw (b:List Str) (v0:Value) (r:List Str) (a:Ffl b=some r) (O S:List Nat) (w:World) (H:Hd O w w S [.own Rp.str v0 9 b]):
    Calls Tryz.prog 148 ([v0,.func (.func 149) #[] #[]]:List Value).toArray w λe w'=>e= .returned (.tuple #[])/\Hd O w w' S [.own Rp.str v0 9 r]:=by
 unfold Ffl at a;split at a;rename_i c;have d:=oI a;subst d;exact sortS_own bDr shLays106 H (i:=0) rfl c (enters_of Tryz.func149 (by kernel_rfl) rfl);cases a
theorem Fejw (b:List Str) (v0:Value) (r:List Str) (a:Fej b=some r) (O S:List Nat) (w:World) (H:Hd O w w S [.own Rp.str v0 9 b]):
    Calls Tryz.prog 150 ([v0]:List Value).toArray w λe w'=> ∃u,e= .returned u/\Hd O w w' S [.own Rp.str u 9 r]:=by
 unfold Fej at a;split at a;rename_i c;have d:=oI a;subst d;exact aWb shLays194 H (i:=0) rfl c;cases a
end Go.Proofs.YtibkjjklfhfipacGreatDoor.E
