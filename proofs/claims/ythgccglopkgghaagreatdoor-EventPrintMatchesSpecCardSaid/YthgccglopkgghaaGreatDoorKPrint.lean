/- The tied card: for every input the law's function returns true and each argument reads as it did. Condition: the package variables that the row lists hold what the program's text lays there. -/
import Derived.Test.YthgccglopkgghaaGreatDoorTie
import Derived.Test.YthgccglopkgghaaGreatDoorUV3
import Derived.Test.YthgccglopkgghaaGreatDoorRQa
import Derived.Test.YthgccglopkgghaaGreatDoorLay1
import Derived.Test.YthgccglopkgghaaGreatDoorOPb
import Derived.Test.YthgccglopkgghaaGreatDoorFPrint
namespace Go.Proofs.YthgccglopkgghaaGreatDoor.eventPrintMatchesSpec
open Go.ChangeShapes Go.WideShapes Go.ChangeAt Go.RowKit
open Go.OB Go.Lf
theorem laidOut:laidOutB Tryz.prog=true:=aCy
theorem own:ownKnob Tryz.prog.godebug=none:=by kernel_rfl
theorem o9 {H:Type}{enc:TypeId×Value->H}{w:World}{base:Nat}{sp:Nat->Bool}{held:Bool}:Opens enc Tryz.prog w base sp held 9 Rp.str (λx=>okS x):=opens_str Tryz.underlying9
theorem o23 {H:Type}{enc:TypeId×Value->H}{w:World}{base:Nat}{sp:Nat->Bool}{held:Bool}:Opens enc Tryz.prog w base sp held 23 (Rp.sl Rp.str) (λx=>okL (λx=>okS x) x):=opens_sl Tryz.underlying23 (by kernel_rfl) (by decide) o9
theorem o3 {H:Type}{enc:TypeId×Value->H}{w:World}{base:Nat}{sp:Nat->Bool}{held:Bool}:Opens enc Tryz.prog w base sp held 3 (Rp.int .i64) (λx=>i64 x):=opens_i64 Tryz.underlying3
theorem o63 {H:Type}{enc:TypeId×Value->H}{w:World}{base:Nat}{sp:Nat->Bool}{held:Bool}:Opens enc Tryz.prog w base sp held 63 fD (λx=>okCond x):=opens_of λM=>by
 induction M with
 |zero=>intro fuel cs x hf h;exact absurd hf (Nat.not_lt_zero _)
 |succ M ih=>
  intro fuel cs x hf h
  have hl:=trod_len (i:=0) (ft:=3) (off:=0) (by kernel_rfl) h
  obtain⟨a0,q0,k0⟩:=part_rd (i:=0) (ft:=3) (off:=0) (s:=1) o3 (by kernel_rfl) (by kernel_rfl) h
  obtain⟨a1,q1,k1⟩:=part_rd (i:=1) (ft:=9) (off:=1) (s:=1) o9 (by kernel_rfl) (by kernel_rfl) h
  obtain⟨a2,q2,k2⟩:=part_rd (i:=2) (ft:=9) (off:=2) (s:=1) o9 (by kernel_rfl) (by kernel_rfl) h
  obtain⟨a3,q3,k3⟩:=part_rd (i:=3) (ft:=3) (off:=3) (s:=1) o3 (by kernel_rfl) (by kernel_rfl) h
  obtain⟨a4,q4,k4⟩:=part_rd (i:=4) (ft:=3) (off:=4) (s:=1) o3 (by kernel_rfl) (by kernel_rfl) h
  obtain⟨a5,q5,k5⟩:=part_rd (i:=5) (ft:=3) (off:=5) (s:=1) o3 (by kernel_rfl) (by kernel_rfl) h
  obtain⟨a6,q6,k6⟩:=part_rdB (i:=6) (ft:=61) (off:=6) (s:=1) (opB_sl Tryz.underlying61 (by kernel_rfl) (by decide) ih) (by kernel_rfl) (by kernel_rfl) (Nat.le_of_lt hf) h
  obtain⟨v6,e6,s6⟩:=q6
  obtain⟨n6,s6⟩:=aMr aCz s6
  have q6:(Rp.sl (qZ n6)).rd All w ((cs.drop 6).take 1) a6:=⟨v6,e6,s6⟩
  have q:=(pair_rd q0 (pair_rd q1 (pair_rd q2 (pair_rd q3 (pair_rd q4 (pair_rd q5 q6 rfl) rfl) rfl) rfl) rfl) rfl)
  rw [List.drop_zero,List.take_of_length_le (by rw [hl];exact Nat.le_of_eq (by kernel_rfl))]at q
  exact⟨Cond.mk a0 a1 a2 a3 a4 a5 a6,⟨n6+1,q⟩,okCond_mk k0 k1 k2 k3 k4 k5 k6⟩
theorem o65 {H:Type}{enc:TypeId×Value->H}{w:World}{base:Nat}{sp:Nat->Bool}{held:Bool}:Opens enc Tryz.prog w base sp held 65 fC (λx=>okMoveT x):=by
 intro fuel cs x h
 have hl:=trod_len (i:=0) (ft:=9) (off:=0) (by kernel_rfl) h
 obtain⟨a0,q0,k0⟩:=part_rd (i:=0) (ft:=9) (off:=0) (s:=1) o9 (by kernel_rfl) (by kernel_rfl) h
 obtain⟨a1,q1,k1⟩:=part_rd (i:=1) (ft:=9) (off:=1) (s:=1) o9 (by kernel_rfl) (by kernel_rfl) h
 obtain⟨a2,q2,k2⟩:=part_rd (i:=2) (ft:=63) (off:=2) (s:=7) o63 (by kernel_rfl) (by kernel_rfl) h
 have q:=(pair_rd q0 (pair_rd q1 q2 rfl) rfl)
 rw [List.drop_zero,List.take_of_length_le (by rw [hl];exact Nat.le_of_eq (by kernel_rfl))]at q
 exact⟨fQ.mk a0 a1 a2,q,k0,k1,k2⟩
theorem o24 {H:Type}{enc:TypeId×Value->H}{w:World}{base:Nat}{sp:Nat->Bool}{held:Bool}:Opens enc Tryz.prog w base sp held 24 (Rp.sl fC) (λx=>okL (λx=>okMoveT x) x):=opens_sl Tryz.underlying24 (by kernel_rfl) (by decide) o65
theorem o69 {H:Type}{enc:TypeId×Value->H}{w:World}{base:Nat}{sp:Nat->Bool}{held:Bool}:Opens enc Tryz.prog w base sp held 69 fO (λx=>aKq x):=by
 intro fuel cs x h
 have hl:=trod_len (i:=0) (ft:=9) (off:=0) (by kernel_rfl) h
 obtain⟨a0,q0,k0⟩:=part_rd (i:=0) (ft:=9) (off:=0) (s:=1) o9 (by kernel_rfl) (by kernel_rfl) h
 obtain⟨a1,q1,k1⟩:=part_rd (i:=1) (ft:=63) (off:=1) (s:=7) o63 (by kernel_rfl) (by kernel_rfl) h
 have q:=(pair_rd q0 q1 rfl)
 rw [List.drop_zero,List.take_of_length_le (by rw [hl];exact Nat.le_of_eq (by kernel_rfl))]at q
 exact⟨dJ.mk a0 a1,q,k0,k1⟩
theorem o25 {H:Type}{enc:TypeId×Value->H}{w:World}{base:Nat}{sp:Nat->Bool}{held:Bool}:Opens enc Tryz.prog w base sp held 25 (Rp.sl fO) (λx=>okL (λx=>aKq x) x):=opens_sl Tryz.underlying25 (by kernel_rfl) (by decide) o69
theorem o27 {H:Type}{enc:TypeId×Value->H}{w:World}{base:Nat}{sp:Nat->Bool}{held:Bool}:Opens enc Tryz.prog w base sp held 27 rRules (λx=>aMe x):=by
 intro fuel cs x h
 have hl:=trod_len (i:=0) (ft:=23) (off:=0) (by kernel_rfl) h
 obtain⟨a0,q0,k0⟩:=part_rd (i:=0) (ft:=23) (off:=0) (s:=1) o23 (by kernel_rfl) (by kernel_rfl) h
 obtain⟨a1,q1,k1⟩:=part_rd (i:=1) (ft:=24) (off:=1) (s:=1) o24 (by kernel_rfl) (by kernel_rfl) h
 obtain⟨a2,q2,k2⟩:=part_rd (i:=2) (ft:=25) (off:=2) (s:=1) o25 (by kernel_rfl) (by kernel_rfl) h
 have q:=(pair_rd q0 (pair_rd q1 q2 rfl) rfl)
 rw [List.drop_zero,List.take_of_length_le (by rw [hl];exact Nat.le_of_eq (by kernel_rfl))]at q
 exact⟨Rules.mk a0 a1 a2,q,k0,k1,k2⟩
theorem gTab1:Tryz.prog.globalNamed "internal/strconv.uint64pow10" =some 1:=by kernel_rfl
theorem gTabType1:(Tryz.prog.globals[1]?).map (·.type)=some 146:=by kernel_rfl
theorem gc146:Tryz.prog.cellsOf 146=20:=by kernel_rfl
theorem gce146:Tryz.prog.cellsOf 120=1:=by kernel_rfl
theorem gf1:Rows.eventPrintMatchesSpecRow.laid.filter (λx=>x.1== "internal/strconv.uint64pow10")=[("internal/strconv.uint64pow10",Lib.tabData .u64 [1,10,100,1000,10000,100000,1000000,10000000,100000000,1000000000,10000000000,100000000000,1000000000000,10000000000000,100000000000000,1000000000000000,10000000000000000,100000000000000000,1000000000000000000,10000000000000000000])]:=by kernel_rfl
theorem table1 {W:World}(h:laidMetH Tryz.prog Rows.eventPrintMatchesSpecRow.laid W):Lib.TabIs Tryz.prog W "internal/strconv.uint64pow10" .u64 [1,10,100,1000,10000,100000,1000000,10000000,100000000,1000000000,10000000000,100000000000,1000000000000,10000000000000,100000000000000,1000000000000000,10000000000000000,100000000000000000,1000000000000000000,10000000000000000000]:=by
 have q:=h.filter (λx=>x.1== "internal/strconv.uint64pow10")
 rw [gf1]at q
 exact Lib.tabIs_of_head (rest:=[]) gTab1 gTabType1 Tryz.underlying146 Tryz.underlying120 gce146 gc146 q
theorem tabItem1 {W:World}(h:laidMetH Tryz.prog Rows.eventPrintMatchesSpecRow.laid W):(Fz.at 1 0 ((Fl.arr 20 (Fl.int .u64)).f zD)).p (frees [] []) W:=by
 have q:=table1 h
 have c:Cells W ⟨1,0,none⟩ ((Fl.arr 20 (Fl.int .u64)).f zD):=by
  intro i v hv
  rw [Addr.add_none,Nat.zero_add]
  have hi:i<20:=by
   have h1:=(List.getElem?_eq_some_iff.1 hv).1
   exact h1
  have c:=q.cell gTab1 i hi
  have e:v= .int .u64 (([1,10,100,1000,10000,100000,1000000,10000000,100000000,1000000000,10000000000,100000000000,1000000000000,10000000000000,100000000000000,1000000000000000,10000000000000000,100000000000000000,1000000000000000000,10000000000000000000]:List Int).getD i 0):=by
   match i,hi,hv with
   |0,_,hv=>exact(Option.some.inj hv).symm
   |1,_,hv=>exact(Option.some.inj hv).symm
   |2,_,hv=>exact(Option.some.inj hv).symm
   |3,_,hv=>exact(Option.some.inj hv).symm
   |4,_,hv=>exact(Option.some.inj hv).symm
   |5,_,hv=>exact(Option.some.inj hv).symm
   |6,_,hv=>exact(Option.some.inj hv).symm
   |7,_,hv=>exact(Option.some.inj hv).symm
   |8,_,hv=>exact(Option.some.inj hv).symm
   |9,_,hv=>exact(Option.some.inj hv).symm
   |10,_,hv=>exact(Option.some.inj hv).symm
   |11,_,hv=>exact(Option.some.inj hv).symm
   |12,_,hv=>exact(Option.some.inj hv).symm
   |13,_,hv=>exact(Option.some.inj hv).symm
   |14,_,hv=>exact(Option.some.inj hv).symm
   |15,_,hv=>exact(Option.some.inj hv).symm
   |16,_,hv=>exact(Option.some.inj hv).symm
   |17,_,hv=>exact(Option.some.inj hv).symm
   |18,_,hv=>exact(Option.some.inj hv).symm
   |19,_,hv=>exact(Option.some.inj hv).symm
  rw [e];exact c
 refine⟨by simp [frees,bks],?_,c⟩
 exact World.block_lt_of_cell? _ _ (q.cell gTab1 0 (by decide))
theorem gTab0:Tryz.prog.globalNamed "orangebox/event.opSigns" =some 0:=by kernel_rfl
theorem gTabType0:(Tryz.prog.globals[0]?).map (·.type)=some 100:=by kernel_rfl
theorem gc100:Tryz.prog.cellsOf 100=7:=by kernel_rfl
theorem gce100:Tryz.prog.cellsOf 9=1:=by kernel_rfl
theorem gf0:Rows.eventPrintMatchesSpecRow.laid.filter (λx=>x.1== "orangebox/event.opSigns")=[("orangebox/event.opSigns",aAl [[],[60],[60,61],[61],[33,61],[62,61],[62]])]:=by kernel_rfl
theorem strItem0 {W:World}(h:laidMetH Tryz.prog Rows.eventPrintMatchesSpecRow.laid W):(Fz.at 0 0 ((Fl.arr 7 Fl.str).f zU)).p (frees [] []) W:=by
 have q:=h.filter (λx=>x.1== "orangebox/event.opSigns")
 rw [gf0]at q
 have q:=aDs gTab0 gTabType0 Tryz.underlying100 Tryz.underlying9 gce100 gc100 q
 have c:Cells W ⟨0,0,none⟩ ((Fl.arr 7 Fl.str).f zU):=by
  intro i v hv
  rw [Addr.add_none,Nat.zero_add]
  have hi:i<7:=by
   have h1:=(List.getElem?_eq_some_iff.1 hv).1
   exact h1
  match i,hi,hv with
  |0,_,hv=>rw [q 0 _ rfl];exact hv
  |1,_,hv=>rw [q 1 _ rfl];exact hv
  |2,_,hv=>rw [q 2 _ rfl];exact hv
  |3,_,hv=>rw [q 3 _ rfl];exact hv
  |4,_,hv=>rw [q 4 _ rfl];exact hv
  |5,_,hv=>rw [q 5 _ rfl];exact hv
  |6,_,hv=>rw [q 6 _ rfl];exact hv
 refine⟨by simp [frees,bks],?_,c⟩
 exact World.block_lt_of_cell? _ _ (q 0 _ rfl)
theorem gTab3:Tryz.prog.globalNamed "strconv.ErrSyntax" =some 3:=by kernel_rfl
theorem gTabType3:(Tryz.prog.globals[3]?).map (·.type)=some 76:=by kernel_rfl
theorem gf3:Rows.eventPrintMatchesSpecRow.laid.filter (λx=>x.1== "strconv.ErrSyntax")=[("strconv.ErrSyntax",Rows.laid_strconv_ErrSyntax)]:=by kernel_rfl
theorem giItem3 {W:World}(h:laidMetH Tryz.prog Rows.eventPrintMatchesSpecRow.laid W):(Fz.gi 3).p (frees [] []) W:=by
 have q:=h.filter (λx=>x.1== "strconv.ErrSyntax")
 rw [gf3]at q
 obtain⟨T,v,c⟩:=uC gTab3 gTabType3 Tryz.underlying76 q
 refine⟨by simp [frees,bks],World.block_lt_of_cell? _ _ c,_,?_,.inr ⟨T,v,rfl⟩⟩
 intro i x hx
 match i,hx with
 |0,hx=>rw [<-hx];exact c
theorem gTab4:Tryz.prog.globalNamed "strconv.ErrRange" =some 4:=by kernel_rfl
theorem gTabType4:(Tryz.prog.globals[4]?).map (·.type)=some 76:=by kernel_rfl
theorem gf4:Rows.eventPrintMatchesSpecRow.laid.filter (λx=>x.1== "strconv.ErrRange")=[("strconv.ErrRange",Rows.laid_strconv_ErrRange)]:=by kernel_rfl
theorem giItem4 {W:World}(h:laidMetH Tryz.prog Rows.eventPrintMatchesSpecRow.laid W):(Fz.gi 4).p (frees [] []) W:=by
 have q:=h.filter (λx=>x.1== "strconv.ErrRange")
 rw [gf4]at q
 obtain⟨T,v,c⟩:=uC gTab4 gTabType4 Tryz.underlying76 q
 refine⟨by simp [frees,bks],World.block_lt_of_cell? _ _ c,_,?_,.inr ⟨T,v,rfl⟩⟩
 intro i x hx
 match i,hx with
 |0,hx=>rw [<-hx];exact c
set_option maxHeartbeats 2000000 in
set_option maxRecDepth 100000 in
theorem contract (H:Type) (enc:TypeId×Value->H) (W:World) (base:Nat) (args:Array Value) (ds gs:List (DataW H)) (before:List MemPlace)
  (hval: ∀(j:Nat) t v,Tryz.f4.params[j]? =some t->args[j]? =some v->Value.okWide Tryz.prog W .any base t v)
  (hW:DataW.Whole enc Tryz.prog Tryz.f4.params.toList Rows.eventPrintMatchesSpecSpec.vars false W args.toList ds gs before) (hL:laidMetH Tryz.prog Rows.eventPrintMatchesSpecRow.laid W):
  Calls Tryz.prog 4 args W λe W'=> ∃v,e= .returned v/\Rows.eventPrintMatchesSpecSpec.post enc Tryz.prog Tryz.f4 false true false false W args v W':=by
 have hW':=hW
 obtain⟨p,q,hA0,hV,rfl,hfz,hnd⟩:=hW
 have hA:DataW.TrodAll enc Tryz.prog W 0 (λ_=>true) true Tryz.f4.params.toList args.toList ds p:=hA0
 rw [Tryz.params4]at hA hval
 obtain⟨v0,vs0,d0,ds0,p0,q0,hargs,rfl,rfl,h0,r0⟩:=trodAll_cons hA
 obtain⟨rfl,rfl,rfl⟩:=trodAll_nil r0
 obtain rfl:args= #[v0]:=by cases args;simp_all
 obtain⟨rfl,rfl⟩:=trodVars_none hV
 have k0:=h0
 have lt0: ∀x∈p0,x.block<W.heap.size:=by obtain⟨m,hm⟩:=k0;exact DataW.trod_lt m _ _ _ hm
 obtain⟨fu0,hf0⟩:=h0
 obtain⟨x0,y0,z0⟩:=o27 fu0 _ _ hf0
 obtain⟨cs0,rfl⟩:=okWide_agg (t:=27) (by kernel_rfl) (hval 0 27 v0 rfl rfl)
 obtain⟨u0_163,u0_164,u0_165,e0,s0_0,s0_1,s0_2⟩:=rRules_open y0
 obtain rfl:cs0=[u0_163,u0_164,u0_165].toArray:=by apply Array.ext';exact e0
 clear hA0
 have HH:=(Hd.fresh0 W).fzs [.sl Rp.str u0_163 x0.Phases,.sl fC u0_164 x0.Moves,.sl fO u0_165 x0.Rules,.at 0 0 ((Fl.arr 7 Fl.str).f zU),.at 1 0 ((Fl.arr 20 (Fl.int .u64)).f zD),.gi 3,.gi 4] ⟨slf_all s0_0,slf_all s0_1,slf_all s0_2,strItem0 hL,tabItem1 hL,giItem3 hL,giItem4 hL,trivial⟩
 refine(L.F_law6_EventPrintMatchesSpec_w x0 u0_163 u0_164 u0_165 true (law_Print x0 z0) HH).mono λe W' ⟨he,G⟩=>?_
 subst he
 have bel:Below W.heap.size W W':=G.only.below
 exact⟨_,rfl,_,_,_,[],_,[],hW',trodAll_mk1 (shut_bool Tryz.underlying4 _),(trodAll_cons_mk (Below.trod laidOut (by kernel_rfl) (of_decide_eq_true (by kernel_rfl)) k0 bel lt0) trodAll_mk0),rfl,bel.frame _,λh=>by cases h⟩

noncomputable def laidWorld (os:Os):World:=
 {World.holding Tryz.prog os ⟨#[.cells #[.string ⟨#[118,97,108,117,101,32,111,117,116,32,111,102,32,114,97,110,103,101]⟩] 171 (0,0),.cells #[.string ⟨#[105,110,118,97,108,105,100,32,115,121,110,116,97,120]⟩] 171 (0,0)],#[],[]⟩with heap:=(((((((World.holding Tryz.prog os ⟨#[.cells #[.string ⟨#[118,97,108,117,101,32,111,117,116,32,111,102,32,114,97,110,103,101]⟩] 171 (0,0),.cells #[.string ⟨#[105,110,118,97,108,105,100,32,115,121,110,116,97,120]⟩] 171 (0,0)],#[],[]⟩).heap.modify 5 λ
   | .cells _ t frozen=> .cells #[.int .u8 0,.int .u8 1,.int .u8 28,.int .u8 2,.int .u8 29,.int .u8 14,.int .u8 24,.int .u8 3,.int .u8 30,.int .u8 22,.int .u8 20,.int .u8 15,.int .u8 25,.int .u8 17,.int .u8 4,.int .u8 8,.int .u8 31,.int .u8 27,.int .u8 13,.int .u8 23,.int .u8 21,.int .u8 19,.int .u8 16,.int .u8 7,.int .u8 26,.int .u8 12,.int .u8 18,.int .u8 6,.int .u8 11,.int .u8 5,.int .u8 10,.int .u8 9] t frozen
   |o=>o).modify 6 λ
   | .cells _ t frozen=> .cells #[.int .u8 0,.int .u8 1,.int .u8 56,.int .u8 2,.int .u8 57,.int .u8 49,.int .u8 28,.int .u8 3,.int .u8 61,.int .u8 58,.int .u8 42,.int .u8 50,.int .u8 38,.int .u8 29,.int .u8 17,.int .u8 4,.int .u8 62,.int .u8 47,.int .u8 59,.int .u8 36,.int .u8 45,.int .u8 43,.int .u8 51,.int .u8 22,.int .u8 53,.int .u8 39,.int .u8 33,.int .u8 30,.int .u8 24,.int .u8 18,.int .u8 12,.int .u8 5,.int .u8 63,.int .u8 55,.int .u8 48,.int .u8 27,.int .u8 60,.int .u8 41,.int .u8 37,.int .u8 16,.int .u8 46,.int .u8 35,.int .u8 44,.int .u8 21,.int .u8 52,.int .u8 32,.int .u8 23,.int .u8 11,.int .u8 54,.int .u8 26,.int .u8 40,.int .u8 15,.int .u8 34,.int .u8 20,.int .u8 31,.int .u8 10,.int .u8 25,.int .u8 14,.int .u8 19,.int .u8 9,.int .u8 13,.int .u8 8,.int .u8 7,.int .u8 6] t frozen
   |o=>o).modify 1 λ
   | .cells _ t frozen=> .cells #[.int .u64 1,.int .u64 10,.int .u64 100,.int .u64 1000,.int .u64 10000,.int .u64 100000,.int .u64 1000000,.int .u64 10000000,.int .u64 100000000,.int .u64 1000000000,.int .u64 10000000000,.int .u64 100000000000,.int .u64 1000000000000,.int .u64 10000000000000,.int .u64 100000000000000,.int .u64 1000000000000000,.int .u64 10000000000000000,.int .u64 100000000000000000,.int .u64 1000000000000000000,.int .u64 10000000000000000000] t frozen
   |o=>o).modify 4 λ
   | .cells _ t frozen=> .cells #[.iface 169 (.pointer (some ⟨12,0,none⟩))] t frozen
   |o=>o).modify 3 λ
   | .cells _ t frozen=> .cells #[.iface 169 (.pointer (some ⟨13,0,none⟩))] t frozen
   |o=>o).modify 0 λ
   | .cells _ t frozen=> .cells #[.string ⟨#[]⟩,.string ⟨#[60]⟩,.string ⟨#[60,61]⟩,.string ⟨#[61]⟩,.string ⟨#[33,61]⟩,.string ⟨#[62,61]⟩,.string ⟨#[62]⟩] t frozen
   |o=>o)}
theorem laid_met (os:Os):laidMet Tryz.prog Rows.eventPrintMatchesSpecRow.laid ((laidWorld os).forCall (λ_ _=>0) ⟨#[],#[Value.agg #[.slice none 0 0,.slice none 0 0,.slice none 0 0]],[]⟩).memory:=
 laidMet_of_run' 8 (by kernel_rfl) (by kernel_rfl)
theorem reads (os:Os){H:Type}(enc:TypeId×Value->H): ∃places,DataW.whole enc Tryz.prog ((laidWorld os).forCall (λ_ _=>0) ⟨#[],#[Value.agg #[.slice none 0 0,.slice none 0 0,.slice none 0 0]],[]⟩).memory Tryz.f4.params.toList Rows.eventPrintMatchesSpecSpec.vars false #[(Value.agg #[.slice none 0 0,.slice none 0 0,.slice none 0 0]:Value)].toList 8=some ([.agg [.nil,.nil,.nil]],[],places):=
 ⟨[],by kernel_rfl⟩

set_option maxRecDepth 100000 in
theorem lifted (os:Os)(started:os.Started)(H:Type)(enc:TypeId×Value->H)(F:Stop.Interp):
  ReturnsInHanded {} Tryz.checked os 4 .any ((OpenSpec.ofChange Rows.eventPrintMatchesSpecSpec).preRow enc Tryz.prog Tryz.f4 Rows.eventPrintMatchesSpecRow.domain false Rows.eventPrintMatchesSpecRow.laid) (((OpenSpec.ofChange Rows.eventPrintMatchesSpecSpec).at F).post enc Tryz.prog Tryz.f4 false true false false):=by
 obtain⟨places,hx⟩:=reads os enc
 refine returnsInHanded_of_row (C:=Tryz.checked) (s:=(OpenSpec.ofChange Rows.eventPrintMatchesSpecSpec)) own started (by kernel_rfl) Tryz.func4
  (witness_row_at (enc:=enc) (C:=Tryz.checked) false (laidWorld os) #[Value.agg #[.slice none 0 0,.slice none 0 0,.slice none 0 0]] rfl (by kernel_rfl) (by kernel_rfl) (by kernel_rfl)
   (OpenSpec.preRow_of_cond 8 hx (by kernel_rfl) (λk hk=>by cases hk) (by kernel_rfl) (laid_met os))) ?_
 intro W base args ds gs before hval hW _ _ _ hL _ _
 exact contract H enc W base args ds gs before hval hW hL

theorem said:Rows.EventPrintMatchesSpecSaid:=
 OpenClaim.holds_of_cond 4 Tryz.f4 rfl rfl rfl rfl rfl rfl rfl ⟨rfl,rfl,rfl,rfl,rfl⟩ rfl rfl rfl rfl rfl (by kernel_rfl) Tryz.func4 closedF
  (of_decide_eq_true (by kernel_rfl)) (by unfold Func.isWrapper;first |(rw [if_pos (by decide+kernel)];kernel_rfl)|(rw [if_neg (by decide+kernel)];exact⟨rfl,rfl⟩))
  (λos started H enc _ F=>by rw [OpenClaim.pre_eq_preRow];exact lifted os started H enc F)
theorem plainP (f:FuncId)(fn:Func)(hf:Tryz.pinned.checked.prog.funcNamed "orangebox/orangeboxlaw6.EventPrintMatchesSpec" =some f)(hfn:Tryz.pinned.checked.prog.funcs[f]? =some fn):
  true=Tryz.pinned.checked.prog.looks []/\ ∀(j:Nat) t,fn.params[j]? =some t->Tryz.pinned.checked.prog.wantsStandIn t=false:=by
 obtain rfl:f=4:=Option.some.inj ((show Tryz.prog.funcNamed "orangebox/orangeboxlaw6.EventPrintMatchesSpec" =some 4 by kernel_rfl).symm.trans hf)|>.symm
 obtain rfl:fn=Tryz.f4:=(Option.some.inj (Tryz.func4.symm.trans hfn)).symm
 refine⟨looksF,λj t ht=>?_⟩
 rw [Tryz.params4]at ht
 have hall:(#[27]:Array TypeId).toList.all (λt=> !Tryz.prog.wantsStandIn t)=true:=by kernel_rfl
 have q:=List.all_eq_true.1 hall t (Array.mem_toList_iff.2 (Array.mem_of_getElem? ht))
 have q2:Tryz.prog.wantsStandIn t=false:=by simpa using q
 exact q2
theorem card:Rows.EventPrintMatchesSpecCardSaid:=
 Claim7.holds_tied_plain_at .later [] _ _ _ _ said (λ_ h=>by cases h) (by kernel_rfl) (λ_ h=>by cases h) eventPrintMatchesSpec_row_tie rfl ⟨rfl,rfl⟩ (by kernel_rfl) rfl plainP goesF
end Go.Proofs.YthgccglopkgghaaGreatDoor.eventPrintMatchesSpec
