/- The tied card: for every input the law's function returns true and each argument reads as it did. Condition: the package variables that the row lists hold what the program's text lays there. -/
import Derived.Test.YtnccbhdmemheeaaGreatDoorTie
import Derived.Test.YtnccbhdmemheeaaGreatDoorUV6
import Derived.Test.YtnccbhdmemheeaaGreatDoorWKa
import Derived.Test.YtnccbhdmemheeaaGreatDoorLay1
import Derived.Test.YtnccbhdmemheeaaGreatDoorOPb
import Derived.Test.YtnccbhdmemheeaaGreatDoorFWatch
namespace Go.Proofs.YtnccbhdmemheeaaGreatDoor.eventWatchMatchesSpec
open Go.ChangeShapes Go.WideShapes Go.ChangeAt Go.RowKit
open Go.OB Go.Lf
theorem laidOut:laidOutB Tryz.prog=true:=aOv
theorem own:ownKnob Tryz.prog.godebug=none:=by kernel_rfl
theorem o9 {H:Type}{enc:TypeId×Value->H}{w:World}{base:Nat}{sp:Nat->Bool}{held:Bool}:jM enc Tryz.prog w base sp held 9 Rp.str (λx=>okS x):=opens_str Tryz.underlying9
theorem o22 {H:Type}{enc:TypeId×Value->H}{w:World}{base:Nat}{sp:Nat->Bool}{held:Bool}:jM enc Tryz.prog w base sp held 22 (Rp.sl Rp.str) (λx=>okL (λx=>okS x) x):=vY Tryz.underlying22 (by kernel_rfl) (by decide) o9
theorem o3 {H:Type}{enc:TypeId×Value->H}{w:World}{base:Nat}{sp:Nat->Bool}{held:Bool}:jM enc Tryz.prog w base sp held 3 (Rp.int .i64) (λx=>i64 x):=opens_i64 Tryz.underlying3
theorem o81 {H:Type}{enc:TypeId×Value->H}{w:World}{base:Nat}{sp:Nat->Bool}{held:Bool}:jM enc Tryz.prog w base sp held 81 dB (λx=>aKs x):=opens_of λM=>by
 induction M with
 |zero=>intro fuel cs x hf h;exact absurd hf (Nat.not_lt_zero _)
 |succ M ih=>
  intro fuel cs x hf h
  have hl:=tZ (i:=0) (ft:=3) (off:=0) (by kernel_rfl) h
  obtain⟨a0,q0,k0⟩:=bF (i:=0) (ft:=3) (off:=0) (s:=1) o3 (by kernel_rfl) (by kernel_rfl) h
  obtain⟨a1,q1,k1⟩:=bF (i:=1) (ft:=9) (off:=1) (s:=1) o9 (by kernel_rfl) (by kernel_rfl) h
  obtain⟨a2,q2,k2⟩:=bF (i:=2) (ft:=9) (off:=2) (s:=1) o9 (by kernel_rfl) (by kernel_rfl) h
  obtain⟨a3,q3,k3⟩:=bF (i:=3) (ft:=3) (off:=3) (s:=1) o3 (by kernel_rfl) (by kernel_rfl) h
  obtain⟨a4,q4,k4⟩:=bF (i:=4) (ft:=3) (off:=4) (s:=1) o3 (by kernel_rfl) (by kernel_rfl) h
  obtain⟨a5,q5,k5⟩:=bF (i:=5) (ft:=3) (off:=5) (s:=1) o3 (by kernel_rfl) (by kernel_rfl) h
  obtain⟨a6,q6,k6⟩:=part_rdB (i:=6) (ft:=79) (off:=6) (s:=1) (opB_sl Tryz.underlying79 (by kernel_rfl) (by decide) ih) (by kernel_rfl) (by kernel_rfl) (Nat.le_of_lt hf) h
  obtain⟨v6,e6,s6⟩:=q6
  obtain⟨n6,s6⟩:=bAb aHq s6
  have q6:(Rp.sl (wV n6)).rd All w ((cs.drop 6).take 1) a6:=⟨v6,e6,s6⟩
  have q:=(kY q0 (kY q1 (kY q2 (kY q3 (kY q4 (kY q5 q6 rfl) rfl) rfl) rfl) rfl) rfl)
  rw [List.drop_zero,List.take_of_length_le (by rw [hl];exact Nat.le_of_eq (by kernel_rfl))]at q
  exact⟨Cond.mk a0 a1 a2 a3 a4 a5 a6,⟨n6+1,q⟩,okCond_mk k0 k1 k2 k3 k4 k5 k6⟩
theorem o98 {H:Type}{enc:TypeId×Value->H}{w:World}{base:Nat}{sp:Nat->Bool}{held:Bool}:jM enc Tryz.prog w base sp held 98 fV (λx=>aRs x):=by
 intro fuel cs x h
 have hl:=tZ (i:=0) (ft:=9) (off:=0) (by kernel_rfl) h
 obtain⟨a0,q0,k0⟩:=bF (i:=0) (ft:=9) (off:=0) (s:=1) o9 (by kernel_rfl) (by kernel_rfl) h
 obtain⟨a1,q1,k1⟩:=bF (i:=1) (ft:=9) (off:=1) (s:=1) o9 (by kernel_rfl) (by kernel_rfl) h
 obtain⟨a2,q2,k2⟩:=bF (i:=2) (ft:=81) (off:=2) (s:=7) o81 (by kernel_rfl) (by kernel_rfl) h
 have q:=(kY q0 (kY q1 q2 rfl) rfl)
 rw [List.drop_zero,List.take_of_length_le (by rw [hl];exact Nat.le_of_eq (by kernel_rfl))]at q
 exact⟨dI.mk a0 a1 a2,q,k0,k1,k2⟩
theorem o23 {H:Type}{enc:TypeId×Value->H}{w:World}{base:Nat}{sp:Nat->Bool}{held:Bool}:jM enc Tryz.prog w base sp held 23 (Rp.sl fV) (λx=>okL (λx=>aRs x) x):=vY Tryz.underlying23 (by kernel_rfl) (by decide) o98
theorem o100 {H:Type}{enc:TypeId×Value->H}{w:World}{base:Nat}{sp:Nat->Bool}{held:Bool}:jM enc Tryz.prog w base sp held 100 eY (λx=>aWj x):=by
 intro fuel cs x h
 have hl:=tZ (i:=0) (ft:=9) (off:=0) (by kernel_rfl) h
 obtain⟨a0,q0,k0⟩:=bF (i:=0) (ft:=9) (off:=0) (s:=1) o9 (by kernel_rfl) (by kernel_rfl) h
 obtain⟨a1,q1,k1⟩:=bF (i:=1) (ft:=81) (off:=1) (s:=7) o81 (by kernel_rfl) (by kernel_rfl) h
 have q:=(kY q0 q1 rfl)
 rw [List.drop_zero,List.take_of_length_le (by rw [hl];exact Nat.le_of_eq (by kernel_rfl))]at q
 exact⟨dA.mk a0 a1,q,k0,k1⟩
theorem o24 {H:Type}{enc:TypeId×Value->H}{w:World}{base:Nat}{sp:Nat->Bool}{held:Bool}:jM enc Tryz.prog w base sp held 24 (Rp.sl eY) (λx=>okL (λx=>aWj x) x):=vY Tryz.underlying24 (by kernel_rfl) (by decide) o100
theorem o26 {H:Type}{enc:TypeId×Value->H}{w:World}{base:Nat}{sp:Nat->Bool}{held:Bool}:jM enc Tryz.prog w base sp held 26 aMe (λx=>aZs x):=by
 intro fuel cs x h
 have hl:=tZ (i:=0) (ft:=22) (off:=0) (by kernel_rfl) h
 obtain⟨a0,q0,k0⟩:=bF (i:=0) (ft:=22) (off:=0) (s:=1) o22 (by kernel_rfl) (by kernel_rfl) h
 obtain⟨a1,q1,k1⟩:=bF (i:=1) (ft:=23) (off:=1) (s:=1) o23 (by kernel_rfl) (by kernel_rfl) h
 obtain⟨a2,q2,k2⟩:=bF (i:=2) (ft:=24) (off:=2) (s:=1) o24 (by kernel_rfl) (by kernel_rfl) h
 have q:=(kY q0 (kY q1 q2 rfl) rfl)
 rw [List.drop_zero,List.take_of_length_le (by rw [hl];exact Nat.le_of_eq (by kernel_rfl))]at q
 exact⟨Rules.mk a0 a1 a2,q,k0,k1,k2⟩
theorem o229 {H:Type}{enc:TypeId×Value->H}{w:World}{base:Nat}{sp:Nat->Bool}{held:Bool}:jM enc Tryz.prog w base sp held 229 dU (λx=>aLt x):=by
 intro fuel cs x h
 have hl:=tZ (i:=0) (ft:=3) (off:=0) (by kernel_rfl) h
 obtain⟨a0,q0,k0⟩:=bF (i:=0) (ft:=3) (off:=0) (s:=1) o3 (by kernel_rfl) (by kernel_rfl) h
 obtain⟨a1,q1,k1⟩:=bF (i:=1) (ft:=3) (off:=1) (s:=1) o3 (by kernel_rfl) (by kernel_rfl) h
 obtain⟨a2,q2,k2⟩:=bF (i:=2) (ft:=3) (off:=2) (s:=1) o3 (by kernel_rfl) (by kernel_rfl) h
 have q:=(kY q0 (kY q1 q2 rfl) rfl)
 rw [List.drop_zero,List.take_of_length_le (by rw [hl];exact Nat.le_of_eq (by kernel_rfl))]at q
 exact⟨nP.mk a0 a1 a2,q,k0,k1,k2⟩
theorem o105 {H:Type}{enc:TypeId×Value->H}{w:World}{base:Nat}{sp:Nat->Bool}{held:Bool}:jM enc Tryz.prog w base sp held 105 (Rp.sl dU) (λx=>okL (λx=>aLt x) x):=vY Tryz.underlying105 (by kernel_rfl) (by decide) o229
theorem o107 {H:Type}{enc:TypeId×Value->H}{w:World}{base:Nat}{sp:Nat->Bool}{held:Bool}:jM enc Tryz.prog w base sp held 107 bBj (λx=>aVt x):=by
 intro fuel cs x h
 have hl:=tZ (i:=0) (ft:=3) (off:=0) (by kernel_rfl) h
 obtain⟨a0,q0,k0⟩:=bF (i:=0) (ft:=3) (off:=0) (s:=1) o3 (by kernel_rfl) (by kernel_rfl) h
 obtain⟨a1,q1,k1⟩:=bF (i:=1) (ft:=105) (off:=1) (s:=1) o105 (by kernel_rfl) (by kernel_rfl) h
 have q:=(kY q0 q1 rfl)
 rw [List.drop_zero,List.take_of_length_le (by rw [hl];exact Nat.le_of_eq (by kernel_rfl))]at q
 exact⟨Series.mk a0 a1,q,k0,k1⟩
theorem o109 {H:Type}{enc:TypeId×Value->H}{w:World}{base:Nat}{sp:Nat->Bool}{held:Bool}:jM enc Tryz.prog w base sp held 109 aHm (λx=>sU x):=by
 intro fuel cs x h
 have hl:=tZ (i:=0) (ft:=9) (off:=0) (by kernel_rfl) h
 obtain⟨a0,q0,k0⟩:=bF (i:=0) (ft:=9) (off:=0) (s:=1) o9 (by kernel_rfl) (by kernel_rfl) h
 obtain⟨a1,q1,k1⟩:=bF (i:=1) (ft:=107) (off:=1) (s:=2) o107 (by kernel_rfl) (by kernel_rfl) h
 obtain⟨a2,q2,k2⟩:=bF (i:=2) (ft:=3) (off:=3) (s:=1) o3 (by kernel_rfl) (by kernel_rfl) h
 have q:=(kY q0 (kY q1 q2 rfl) rfl)
 rw [List.drop_zero,List.take_of_length_le (by rw [hl];exact Nat.le_of_eq (by kernel_rfl))]at q
 exact⟨fF.mk a0 a1 a2,q,k0,k1,k2⟩
theorem o27 {H:Type}{enc:TypeId×Value->H}{w:World}{base:Nat}{sp:Nat->Bool}{held:Bool}:jM enc Tryz.prog w base sp held 27 (Rp.sl aHm) (λx=>okL (λx=>sU x) x):=vY Tryz.underlying27 (by kernel_rfl) (by decide) o109
theorem o4 {H:Type}{enc:TypeId×Value->H}{w:World}{base:Nat}{sp:Nat->Bool}{held:Bool}:jM enc Tryz.prog w base sp held 4 Rp.bool (λ_=>True):=aYs Tryz.underlying4
theorem o72 {H:Type}{enc:TypeId×Value->H}{w:World}{base:Nat}{sp:Nat->Bool}{held:Bool}:jM enc Tryz.prog w base sp held 72 bH (λx=>aJh x):=by
 intro fuel cs x h
 have hl:=tZ (i:=0) (ft:=3) (off:=0) (by kernel_rfl) h
 obtain⟨a0,q0,k0⟩:=bF (i:=0) (ft:=3) (off:=0) (s:=1) o3 (by kernel_rfl) (by kernel_rfl) h
 obtain⟨a1,q1,k1⟩:=bF (i:=1) (ft:=4) (off:=1) (s:=1) o4 (by kernel_rfl) (by kernel_rfl) h
 have q:=(kY q0 q1 rfl)
 rw [List.drop_zero,List.take_of_length_le (by rw [hl];exact Nat.le_of_eq (by kernel_rfl))]at q
 exact⟨fD.mk a0 a1,q,k0,k1⟩
theorem o41 {H:Type}{enc:TypeId×Value->H}{w:World}{base:Nat}{sp:Nat->Bool}{held:Bool}:jM enc Tryz.prog w base sp held 41 (Rp.sl bH) (λx=>okL (λx=>aJh x) x):=vY Tryz.underlying41 (by kernel_rfl) (by decide) o72
theorem o28 {H:Type}{enc:TypeId×Value->H}{w:World}{base:Nat}{sp:Nat->Bool}{held:Bool}:jM enc Tryz.prog w base sp held 28 (Rp.sl (Rp.sl bH)) (λx=>okL (λx=>okL (λx=>aJh x) x) x):=vY Tryz.underlying28 (by kernel_rfl) (by decide) o41
theorem gTab2:Tryz.prog.globalNamed "internal/strconv.uint64pow10" =some 2:=by kernel_rfl
theorem gTabType2:(Tryz.prog.globals[2]?).map (·.type)=some 279:=by kernel_rfl
theorem gc279:Tryz.prog.cellsOf 279=20:=by kernel_rfl
theorem gce279:Tryz.prog.cellsOf 241=1:=by kernel_rfl
theorem gf2:Rows.eventWatchMatchesSpecRow.laid.filter (λx=>x.1== "internal/strconv.uint64pow10")=[("internal/strconv.uint64pow10",Lib.tabData .u64 [1,10,100,1000,10000,100000,1000000,10000000,100000000,1000000000,10000000000,100000000000,1000000000000,10000000000000,100000000000000,1000000000000000,10000000000000000,100000000000000000,1000000000000000000,10000000000000000000])]:=by kernel_rfl
theorem table2 {W:World}(h:laidMetH Tryz.prog Rows.eventWatchMatchesSpecRow.laid W):Lib.TabIs Tryz.prog W "internal/strconv.uint64pow10" .u64 [1,10,100,1000,10000,100000,1000000,10000000,100000000,1000000000,10000000000,100000000000,1000000000000,10000000000000,100000000000000,1000000000000000,10000000000000000,100000000000000000,1000000000000000000,10000000000000000000]:=by
 have q:=h.filter (λx=>x.1== "internal/strconv.uint64pow10")
 rw [gf2]at q
 exact Lib.tabIs_of_head (rest:=[]) gTab2 gTabType2 Tryz.underlying279 Tryz.underlying241 gce279 gc279 q
theorem tabItem2 {W:World}(h:laidMetH Tryz.prog Rows.eventWatchMatchesSpecRow.laid W):(Fz.at 2 0 ((Fl.arr 20 (Fl.int .u64)).f zX)).p (frees [] []) W:=by
 have q:=table2 h
 have c:Cells W ⟨2,0,none⟩ ((Fl.arr 20 (Fl.int .u64)).f zX):=by
  intro i v hv
  rw [Addr.add_none,Nat.zero_add]
  have hi:i<20:=by
   have h1:=(List.getElem?_eq_some_iff.1 hv).1
   exact h1
  have c:=q.cell gTab2 i hi
  have e:v= .int .u64 (([1,10,100,1000,10000,100000,1000000,10000000,100000000,1000000000,10000000000,100000000000,1000000000000,10000000000000,100000000000000,1000000000000000,10000000000000000,100000000000000000,1000000000000000000,10000000000000000000]:List Int).getD i 0):=by
   match i,hi,hv with
   |0,_,hv=>exact(Option.some.inj hv).symm
   |1,_,hv=>exact(Option.some.inj hv).symm
   |2,_,hv=>exact(Option.some.inj hv).symm
   |3,_,hv=>exact(Option.some.inj hv).symm
   |4,_,hv=>exact(Option.some.inj hv).symm
   |5,_,hv=>exact(Option.some.inj hv).symm
   |6,_,hv=>exact(Option.some.inj hv).symm
   |7,_,hv=>exact(Option.some.inj hv).symm
   |8,_,hv=>exact(Option.some.inj hv).symm
   |9,_,hv=>exact(Option.some.inj hv).symm
   |10,_,hv=>exact(Option.some.inj hv).symm
   |11,_,hv=>exact(Option.some.inj hv).symm
   |12,_,hv=>exact(Option.some.inj hv).symm
   |13,_,hv=>exact(Option.some.inj hv).symm
   |14,_,hv=>exact(Option.some.inj hv).symm
   |15,_,hv=>exact(Option.some.inj hv).symm
   |16,_,hv=>exact(Option.some.inj hv).symm
   |17,_,hv=>exact(Option.some.inj hv).symm
   |18,_,hv=>exact(Option.some.inj hv).symm
   |19,_,hv=>exact(Option.some.inj hv).symm
  rw [e];exact c
 refine⟨by simp [frees,bks],?_,c⟩
 exact World.block_lt_of_cell? _ _ (q.cell gTab2 0 (by decide))
theorem gTab0:Tryz.prog.globalNamed "orangebox/event.opSigns" =some 0:=by kernel_rfl
theorem gTabType0:(Tryz.prog.globals[0]?).map (·.type)=some 193:=by kernel_rfl
theorem gc193:Tryz.prog.cellsOf 193=7:=by kernel_rfl
theorem gce193:Tryz.prog.cellsOf 9=1:=by kernel_rfl
theorem gf0:Rows.eventWatchMatchesSpecRow.laid.filter (λx=>x.1== "orangebox/event.opSigns")=[("orangebox/event.opSigns",aJu [[],[60],[60,61],[61],[33,61],[62,61],[62]])]:=by kernel_rfl
theorem strItem0 {W:World}(h:laidMetH Tryz.prog Rows.eventWatchMatchesSpecRow.laid W):(Fz.at 0 0 ((Fl.arr 7 Fl.str).f yG)).p (frees [] []) W:=by
 have q:=h.filter (λx=>x.1== "orangebox/event.opSigns")
 rw [gf0]at q
 have q:=aQk gTab0 gTabType0 Tryz.underlying193 Tryz.underlying9 gce193 gc193 q
 have c:Cells W ⟨0,0,none⟩ ((Fl.arr 7 Fl.str).f yG):=by
  intro i v hv
  rw [Addr.add_none,Nat.zero_add]
  have hi:i<7:=by
   have h1:=(List.getElem?_eq_some_iff.1 hv).1
   exact h1
  match i,hi,hv with
  |0,_,hv=>rw [q 0 _ rfl];exact hv
  |1,_,hv=>rw [q 1 _ rfl];exact hv
  |2,_,hv=>rw [q 2 _ rfl];exact hv
  |3,_,hv=>rw [q 3 _ rfl];exact hv
  |4,_,hv=>rw [q 4 _ rfl];exact hv
  |5,_,hv=>rw [q 5 _ rfl];exact hv
  |6,_,hv=>rw [q 6 _ rfl];exact hv
 refine⟨by simp [frees,bks],?_,c⟩
 exact World.block_lt_of_cell? _ _ (q 0 _ rfl)
theorem gTab3:Tryz.prog.globalNamed "strconv.ErrSyntax" =some 3:=by kernel_rfl
theorem gTabType3:(Tryz.prog.globals[3]?).map (·.type)=some 131:=by kernel_rfl
theorem gf3:Rows.eventWatchMatchesSpecRow.laid.filter (λx=>x.1== "strconv.ErrSyntax")=[("strconv.ErrSyntax",Rows.laid_strconv_ErrSyntax)]:=by kernel_rfl
theorem giItem3 {W:World}(h:laidMetH Tryz.prog Rows.eventWatchMatchesSpecRow.laid W):(Fz.gi 3).p (frees [] []) W:=by
 have q:=h.filter (λx=>x.1== "strconv.ErrSyntax")
 rw [gf3]at q
 obtain⟨T,v,c⟩:=aNt gTab3 gTabType3 Tryz.underlying131 q
 refine⟨by simp [frees,bks],World.block_lt_of_cell? _ _ c,_,?_,.inr ⟨T,v,rfl⟩⟩
 intro i x hx
 match i,hx with
 |0,hx=>rw [<-hx];exact c
set_option maxHeartbeats 2000000 in
set_option maxRecDepth 100000 in
theorem contract (H:Type) (enc:TypeId×Value->H) (W:World) (base:Nat) (args:Array Value) (ds gs:List (DataW H)) (before:List MemPlace)
  (hval: ∀(j:Nat) t v,Tryz.f3.params[j]? =some t->args[j]? =some v->Value.okWide Tryz.prog W .any base t v)
  (hW:DataW.Whole enc Tryz.prog Tryz.f3.params.toList Rows.eventWatchMatchesSpecSpec.vars false W args.toList ds gs before) (hL:laidMetH Tryz.prog Rows.eventWatchMatchesSpecRow.laid W):
  Calls Tryz.prog 3 args W λe W'=> ∃v,e= .returned v/\Rows.eventWatchMatchesSpecSpec.post enc Tryz.prog Tryz.f3 false true false false W args v W':=by
 have hW':=hW
 obtain⟨p,q,hA0,hV,rfl,hfz,hnd⟩:=hW
 have hA:DataW.TrodAll enc Tryz.prog W 0 (λ_=>true) true Tryz.f3.params.toList args.toList ds p:=hA0
 rw [Tryz.params3]at hA hval
 obtain⟨v0,vs0,d0,ds0,p0,q0,hargs,rfl,rfl,h0,r0⟩:=trodAll_cons hA
 obtain⟨v1,vs1,d1,ds1,p1,q1,rfl,rfl,rfl,h1,r1⟩:=trodAll_cons r0
 obtain⟨v2,vs2,d2,ds2,p2,q2,rfl,rfl,rfl,h2,r2⟩:=trodAll_cons r1
 obtain⟨rfl,rfl,rfl⟩:=trodAll_nil r2
 obtain rfl:args= #[v0,v1,v2]:=by cases args;simp_all
 obtain⟨rfl,rfl⟩:=trodVars_none hV
 have k0:=h0
 have lt0: ∀x∈p0,x.block<W.heap.size:=by obtain⟨m,hm⟩:=k0;exact DataW.trod_lt m _ _ _ hm
 obtain⟨fu0,hf0⟩:=h0
 obtain⟨x0,y0,z0⟩:=o26 fu0 _ _ hf0
 obtain⟨cs0,rfl⟩:=aXf (t:=26) (by kernel_rfl) (hval 0 26 v0 rfl rfl)
 obtain⟨u0_3536,u0_3537,u0_3538,e0,s0_0,s0_1,s0_2⟩:=aIk y0
 obtain rfl:cs0=[u0_3536,u0_3537,u0_3538].toArray:=by apply Array.ext';exact e0
 have k1:=h1
 have lt1: ∀x∈p1,x.block<W.heap.size:=by obtain⟨m,hm⟩:=k1;exact DataW.trod_lt m _ _ _ hm
 obtain⟨fu1,hf1⟩:=h1
 obtain⟨x1,y1,z1⟩:=o27 fu1 _ _ hf1
 obtain⟨a1,n1,c1,rfl⟩:=okWide_slice Tryz.underlying27 (hval 1 27 v1 rfl rfl)
 obtain⟨u1,e1,s1_0⟩:=y1
 obtain rfl:Value.slice a1 n1 c1=u1:=by have y:[Value.slice a1 n1 c1]=[u1]:=e1;simpa using y
 have k2:=h2
 have lt2: ∀x∈p2,x.block<W.heap.size:=by obtain⟨m,hm⟩:=k2;exact DataW.trod_lt m _ _ _ hm
 obtain⟨fu2,hf2⟩:=h2
 obtain⟨x2,y2,z2⟩:=o28 fu2 _ _ hf2
 obtain⟨a2,n2,c2,rfl⟩:=okWide_slice Tryz.underlying28 (hval 2 28 v2 rfl rfl)
 obtain⟨u2,e2,s2_0⟩:=y2
 obtain rfl:Value.slice a2 n2 c2=u2:=by have y:[Value.slice a2 n2 c2]=[u2]:=e2;simpa using y
 clear hA0
 have HH:=(Hd.fresh0 W).fzs [.sl Rp.str u0_3536 x0.Phases,.sl fV u0_3537 x0.Moves,.sl eY u0_3538 x0.Rules,.sl aHm (.slice a1 n1 c1) x1,.sl (Rp.sl bH) (.slice a2 n2 c2) x2,.at 0 0 ((Fl.arr 7 Fl.str).f yG),.at 2 0 ((Fl.arr 20 (Fl.int .u64)).f zX),.gi 3] ⟨aFp s0_0,aFp s0_1,aFp s0_2,aFp s1_0,aFp s2_0,strItem0 hL,tabItem2 hL,giItem3 hL,trivial⟩
 refine(L.Fgyw x0 x1 x2 u0_3536 u0_3537 u0_3538 (.slice a1 n1 c1) (.slice a2 n2 c2) true (law_Watch x0 x1 x2 z0 z1 z2) HH).mono λe W' ⟨he,G⟩=>?_
 subst he
 have bel:Below W.heap.size W W':=G.only.below
 exact⟨_,rfl,_,_,_,[],_,[],hW',trodAll_mk1 (shut_bool Tryz.underlying4 _),(trodAll_cons_mk (Below.trod laidOut (by kernel_rfl) (of_decide_eq_true (by kernel_rfl)) k0 bel lt0) (trodAll_cons_mk (Below.trod laidOut (by kernel_rfl) (of_decide_eq_true (by kernel_rfl)) k1 bel lt1) (trodAll_cons_mk (Below.trod laidOut (by kernel_rfl) (of_decide_eq_true (by kernel_rfl)) k2 bel lt2) trodAll_mk0))),rfl,bel.frame _,λh=>by cases h⟩

noncomputable def laidWorld (os:Os):World:=
 {World.holding Tryz.prog os ⟨#[.cells #[.string ⟨#[118,97,108,117,101,32,111,117,116,32,111,102,32,114,97,110,103,101]⟩] 291 (0,0),.cells #[.string ⟨#[105,110,118,97,108,105,100,32,115,121,110,116,97,120]⟩] 291 (0,0)],#[],[]⟩with heap:=(((((((World.holding Tryz.prog os ⟨#[.cells #[.string ⟨#[118,97,108,117,101,32,111,117,116,32,111,102,32,114,97,110,103,101]⟩] 291 (0,0),.cells #[.string ⟨#[105,110,118,97,108,105,100,32,115,121,110,116,97,120]⟩] 291 (0,0)],#[],[]⟩).heap.modify 5 λ
   | .cells _ t frozen=> .cells #[.int .u8 0,.int .u8 1,.int .u8 28,.int .u8 2,.int .u8 29,.int .u8 14,.int .u8 24,.int .u8 3,.int .u8 30,.int .u8 22,.int .u8 20,.int .u8 15,.int .u8 25,.int .u8 17,.int .u8 4,.int .u8 8,.int .u8 31,.int .u8 27,.int .u8 13,.int .u8 23,.int .u8 21,.int .u8 19,.int .u8 16,.int .u8 7,.int .u8 26,.int .u8 12,.int .u8 18,.int .u8 6,.int .u8 11,.int .u8 5,.int .u8 10,.int .u8 9] t frozen
   |o=>o).modify 6 λ
   | .cells _ t frozen=> .cells #[.int .u8 0,.int .u8 1,.int .u8 56,.int .u8 2,.int .u8 57,.int .u8 49,.int .u8 28,.int .u8 3,.int .u8 61,.int .u8 58,.int .u8 42,.int .u8 50,.int .u8 38,.int .u8 29,.int .u8 17,.int .u8 4,.int .u8 62,.int .u8 47,.int .u8 59,.int .u8 36,.int .u8 45,.int .u8 43,.int .u8 51,.int .u8 22,.int .u8 53,.int .u8 39,.int .u8 33,.int .u8 30,.int .u8 24,.int .u8 18,.int .u8 12,.int .u8 5,.int .u8 63,.int .u8 55,.int .u8 48,.int .u8 27,.int .u8 60,.int .u8 41,.int .u8 37,.int .u8 16,.int .u8 46,.int .u8 35,.int .u8 44,.int .u8 21,.int .u8 52,.int .u8 32,.int .u8 23,.int .u8 11,.int .u8 54,.int .u8 26,.int .u8 40,.int .u8 15,.int .u8 34,.int .u8 20,.int .u8 31,.int .u8 10,.int .u8 25,.int .u8 14,.int .u8 19,.int .u8 9,.int .u8 13,.int .u8 8,.int .u8 7,.int .u8 6] t frozen
   |o=>o).modify 2 λ
   | .cells _ t frozen=> .cells #[.int .u64 1,.int .u64 10,.int .u64 100,.int .u64 1000,.int .u64 10000,.int .u64 100000,.int .u64 1000000,.int .u64 10000000,.int .u64 100000000,.int .u64 1000000000,.int .u64 10000000000,.int .u64 100000000000,.int .u64 1000000000000,.int .u64 10000000000000,.int .u64 100000000000000,.int .u64 1000000000000000,.int .u64 10000000000000000,.int .u64 100000000000000000,.int .u64 1000000000000000000,.int .u64 10000000000000000000] t frozen
   |o=>o).modify 4 λ
   | .cells _ t frozen=> .cells #[.iface 289 (.pointer (some ⟨12,0,none⟩))] t frozen
   |o=>o).modify 3 λ
   | .cells _ t frozen=> .cells #[.iface 289 (.pointer (some ⟨13,0,none⟩))] t frozen
   |o=>o).modify 0 λ
   | .cells _ t frozen=> .cells #[.string ⟨#[]⟩,.string ⟨#[60]⟩,.string ⟨#[60,61]⟩,.string ⟨#[61]⟩,.string ⟨#[33,61]⟩,.string ⟨#[62,61]⟩,.string ⟨#[62]⟩] t frozen
   |o=>o)}
theorem laid_met (os:Os):laidMet Tryz.prog Rows.eventWatchMatchesSpecRow.laid ((laidWorld os).forCall (λ_ _=>0) ⟨#[],#[Value.agg #[.slice none 0 0,.slice none 0 0,.slice none 0 0],.slice none 0 0,.slice none 0 0],[]⟩).memory:=
 laidMet_of_run' 8 (by kernel_rfl) (by kernel_rfl)
theorem reads (os:Os){H:Type}(enc:TypeId×Value->H): ∃places,DataW.whole enc Tryz.prog ((laidWorld os).forCall (λ_ _=>0) ⟨#[],#[Value.agg #[.slice none 0 0,.slice none 0 0,.slice none 0 0],.slice none 0 0,.slice none 0 0],[]⟩).memory Tryz.f3.params.toList Rows.eventWatchMatchesSpecSpec.vars false #[(Value.agg #[.slice none 0 0,.slice none 0 0,.slice none 0 0]:Value),.slice none 0 0,.slice none 0 0].toList 8=some ([.agg [.nil,.nil,.nil],.nil,.nil],[],places):=
 ⟨[],by kernel_rfl⟩

set_option maxRecDepth 100000 in
theorem lifted (os:Os)(started:os.Started)(H:Type)(enc:TypeId×Value->H)(F:Stop.Interp):
  ReturnsInHanded {} Tryz.checked os 3 .any ((OpenSpec.ofChange Rows.eventWatchMatchesSpecSpec).preRow enc Tryz.prog Tryz.f3 Rows.eventWatchMatchesSpecRow.domain false Rows.eventWatchMatchesSpecRow.laid) (((OpenSpec.ofChange Rows.eventWatchMatchesSpecSpec).at F).post enc Tryz.prog Tryz.f3 false true false false):=by
 obtain⟨places,hx⟩:=reads os enc
 refine returnsInHanded_of_row (C:=Tryz.checked) (s:=(OpenSpec.ofChange Rows.eventWatchMatchesSpecSpec)) own started (by kernel_rfl) Tryz.func3
  (witness_row_at (enc:=enc) (C:=Tryz.checked) false (laidWorld os) #[Value.agg #[.slice none 0 0,.slice none 0 0,.slice none 0 0],.slice none 0 0,.slice none 0 0] rfl (by kernel_rfl) (by kernel_rfl) (by kernel_rfl)
   (OpenSpec.preRow_of_cond 8 hx (by kernel_rfl) (λk hk=>by cases hk) (by kernel_rfl) (laid_met os))) ?_
 intro W base args ds gs before hval hW _ _ _ hL _ _
 exact contract H enc W base args ds gs before hval hW hL

theorem said:Rows.EventWatchMatchesSpecSaid:=
 OpenClaim.holds_of_cond 3 Tryz.f3 rfl rfl rfl rfl rfl rfl rfl ⟨rfl,rfl,rfl,rfl,rfl⟩ rfl rfl rfl rfl rfl (by kernel_rfl) Tryz.func3 closedF
  (of_decide_eq_true (by kernel_rfl)) (by unfold Func.isWrapper;first |(rw [if_pos (by decide+kernel)];kernel_rfl)|(rw [if_neg (by decide+kernel)];exact⟨rfl,rfl⟩))
  (λos started H enc _ F=>by rw [OpenClaim.pre_eq_preRow];exact lifted os started H enc F)
theorem plainP (f:FuncId)(fn:Func)(hf:Tryz.pinned.checked.prog.funcNamed "orangebox/orangeboxlaw6.EventWatchMatchesSpec" =some f)(hfn:Tryz.pinned.checked.prog.funcs[f]? =some fn):
  true=Tryz.pinned.checked.prog.looks []/\ ∀(j:Nat) t,fn.params[j]? =some t->Tryz.pinned.checked.prog.wantsStandIn t=false:=by
 obtain rfl:f=3:=Option.some.inj ((show Tryz.prog.funcNamed "orangebox/orangeboxlaw6.EventWatchMatchesSpec" =some 3 by kernel_rfl).symm.trans hf)|>.symm
 obtain rfl:fn=Tryz.f3:=(Option.some.inj (Tryz.func3.symm.trans hfn)).symm
 refine⟨looksF,λj t ht=>?_⟩
 rw [Tryz.params3]at ht
 have hall:(#[26,27,28]:Array TypeId).toList.all (λt=> !Tryz.prog.wantsStandIn t)=true:=by kernel_rfl
 have q:=List.all_eq_true.1 hall t (Array.mem_toList_iff.2 (Array.mem_of_getElem? ht))
 have q2:Tryz.prog.wantsStandIn t=false:=by simpa using q
 exact q2
theorem card:Rows.EventWatchMatchesSpecCardSaid:=
 Claim7.holds_tied_plain_at .later [] _ _ _ _ said (λ_ h=>by cases h) (by kernel_rfl) (λ_ h=>by cases h) eventWatchMatchesSpec_row_tie rfl ⟨rfl,rfl⟩ (by kernel_rfl) rfl plainP goesF
end Go.Proofs.YtnccbhdmemheeaaGreatDoor.eventWatchMatchesSpec
