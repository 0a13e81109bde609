/- The tied card: for every input the law's function returns true and each argument reads as it did. Condition: the package variables that the row lists hold what the program's text lays there. -/
import Derived.Test.YtibkjjklfhfipacGreatDoorTie
import Derived.Test.YtibkjjklfhfipacGreatDoorUV6
import Derived.Test.YtibkjjklfhfipacGreatDoorHAa
import Derived.Test.YtibkjjklfhfipacGreatDoorLay1
import Derived.Test.YtibkjjklfhfipacGreatDoorOPb
import Derived.Test.YtibkjjklfhfipacGreatDoorFTable
namespace Go.Proofs.YtibkjjklfhfipacGreatDoor.fleetTableMatchesSpec
open Go.ChangeShapes Go.WideShapes Go.ChangeAt Go.RowKit
open Go.OB Go.Lf
theorem laidOut:laidOutB Tryz.prog=true:=aSv
theorem own:ownKnob Tryz.prog.godebug=none:=by kernel_rfl
theorem o9 {H:Type}{enc:TypeId×Value->H}{w:World}{base:Nat}{sp:Nat->Bool}{held:Bool}:kW enc Tryz.prog w base sp held 9 Rp.str (λx=>okS x):=opens_str Tryz.underlying9
theorem o3 {H:Type}{enc:TypeId×Value->H}{w:World}{base:Nat}{sp:Nat->Bool}{held:Bool}:kW enc Tryz.prog w base sp held 3 (Rp.int .i64) (λx=>i64 x):=opens_i64 Tryz.underlying3
theorem o88 {H:Type}{enc:TypeId×Value->H}{w:World}{base:Nat}{sp:Nat->Bool}{held:Bool}:kW enc Tryz.prog w base sp held 88 eH (λx=>aPb x):=by
 intro fuel cs x h
 have hl:=qG (i:=0) (ft:=3) (off:=0) (by kernel_rfl) h
 obtain⟨a0,q0,k0⟩:=xX (i:=0) (ft:=3) (off:=0) (s:=1) o3 (by kernel_rfl) (by kernel_rfl) h
 obtain⟨a1,q1,k1⟩:=xX (i:=1) (ft:=3) (off:=1) (s:=1) o3 (by kernel_rfl) (by kernel_rfl) h
 obtain⟨a2,q2,k2⟩:=xX (i:=2) (ft:=3) (off:=2) (s:=1) o3 (by kernel_rfl) (by kernel_rfl) h
 have q:=(dV q0 (dV q1 q2 rfl) rfl)
 rw [List.drop_zero,List.take_of_length_le (by rw [hl];exact Nat.le_of_eq (by kernel_rfl))]at q
 exact⟨fD.mk a0 a1 a2,q,k0,k1,k2⟩
theorem o81 {H:Type}{enc:TypeId×Value->H}{w:World}{base:Nat}{sp:Nat->Bool}{held:Bool}:kW enc Tryz.prog w base sp held 81 (Rp.sl eH) (λx=>okL (λx=>aPb x) x):=wY Tryz.underlying81 (by kernel_rfl) (by decide) o88
theorem o83 {H:Type}{enc:TypeId×Value->H}{w:World}{base:Nat}{sp:Nat->Bool}{held:Bool}:kW enc Tryz.prog w base sp held 83 bHh (λx=>bAx x):=by
 intro fuel cs x h
 have hl:=qG (i:=0) (ft:=3) (off:=0) (by kernel_rfl) h
 obtain⟨a0,q0,k0⟩:=xX (i:=0) (ft:=3) (off:=0) (s:=1) o3 (by kernel_rfl) (by kernel_rfl) h
 obtain⟨a1,q1,k1⟩:=xX (i:=1) (ft:=81) (off:=1) (s:=1) o81 (by kernel_rfl) (by kernel_rfl) h
 have q:=(dV q0 q1 rfl)
 rw [List.drop_zero,List.take_of_length_le (by rw [hl];exact Nat.le_of_eq (by kernel_rfl))]at q
 exact⟨Series.mk a0 a1,q,k0,k1⟩
theorem o85 {H:Type}{enc:TypeId×Value->H}{w:World}{base:Nat}{sp:Nat->Bool}{held:Bool}:kW enc Tryz.prog w base sp held 85 dE (λx=>aFy x):=by
 intro fuel cs x h
 have hl:=qG (i:=0) (ft:=9) (off:=0) (by kernel_rfl) h
 obtain⟨a0,q0,k0⟩:=xX (i:=0) (ft:=9) (off:=0) (s:=1) o9 (by kernel_rfl) (by kernel_rfl) h
 obtain⟨a1,q1,k1⟩:=xX (i:=1) (ft:=83) (off:=1) (s:=2) o83 (by kernel_rfl) (by kernel_rfl) h
 obtain⟨a2,q2,k2⟩:=xX (i:=2) (ft:=3) (off:=3) (s:=1) o3 (by kernel_rfl) (by kernel_rfl) h
 have q:=(dV q0 (dV q1 q2 rfl) rfl)
 rw [List.drop_zero,List.take_of_length_le (by rw [hl];exact Nat.le_of_eq (by kernel_rfl))]at q
 exact⟨Track.mk a0 a1 a2,q,k0,k1,k2⟩
theorem o50 {H:Type}{enc:TypeId×Value->H}{w:World}{base:Nat}{sp:Nat->Bool}{held:Bool}:kW enc Tryz.prog w base sp held 50 (Rp.sl dE) (λx=>okL (λx=>aFy x) x):=wY Tryz.underlying50 (by kernel_rfl) (by decide) o85
theorem o52 {H:Type}{enc:TypeId×Value->H}{w:World}{base:Nat}{sp:Nat->Bool}{held:Bool}:kW enc Tryz.prog w base sp held 52 sN (λx=>kZ x):=by
 intro fuel cs x h
 have hl:=qG (i:=0) (ft:=9) (off:=0) (by kernel_rfl) h
 obtain⟨a0,q0,k0⟩:=xX (i:=0) (ft:=9) (off:=0) (s:=1) o9 (by kernel_rfl) (by kernel_rfl) h
 obtain⟨a1,q1,k1⟩:=xX (i:=1) (ft:=9) (off:=1) (s:=1) o9 (by kernel_rfl) (by kernel_rfl) h
 obtain⟨a2,q2,k2⟩:=xX (i:=2) (ft:=3) (off:=2) (s:=1) o3 (by kernel_rfl) (by kernel_rfl) h
 obtain⟨a3,q3,k3⟩:=xX (i:=3) (ft:=3) (off:=3) (s:=1) o3 (by kernel_rfl) (by kernel_rfl) h
 obtain⟨a4,q4,k4⟩:=xX (i:=4) (ft:=3) (off:=4) (s:=1) o3 (by kernel_rfl) (by kernel_rfl) h
 obtain⟨a5,q5,k5⟩:=xX (i:=5) (ft:=50) (off:=5) (s:=1) o50 (by kernel_rfl) (by kernel_rfl) h
 have q:=(dV q0 (dV q1 (dV q2 (dV q3 (dV q4 q5 rfl) rfl) rfl) rfl) rfl)
 rw [List.drop_zero,List.take_of_length_le (by rw [hl];exact Nat.le_of_eq (by kernel_rfl))]at q
 exact⟨Flight.mk a0 a1 a2 a3 a4 a5,q,k0,k1,k2,k3,k4,k5⟩
theorem o22 {H:Type}{enc:TypeId×Value->H}{w:World}{base:Nat}{sp:Nat->Bool}{held:Bool}:kW enc Tryz.prog w base sp held 22 (Rp.sl sN) (λx=>okL (λx=>kZ x) x):=wY Tryz.underlying22 (by kernel_rfl) (by decide) o52
theorem o23 {H:Type}{enc:TypeId×Value->H}{w:World}{base:Nat}{sp:Nat->Bool}{held:Bool}:kW enc Tryz.prog w base sp held 23 (Rp.sl Rp.str) (λx=>okL (λx=>okS x) x):=wY Tryz.underlying23 (by kernel_rfl) (by decide) o9
theorem o71 {H:Type}{enc:TypeId×Value->H}{w:World}{base:Nat}{sp:Nat->Bool}{held:Bool}:kW enc Tryz.prog w base sp held 71 dU (λx=>aQy x):=opens_of λM=>by
 induction M with
 |zero=>intro fuel cs x hf h;exact absurd hf (Nat.not_lt_zero _)
 |succ M ih=>
  intro fuel cs x hf h
  have hl:=qG (i:=0) (ft:=3) (off:=0) (by kernel_rfl) h
  obtain⟨a0,q0,k0⟩:=xX (i:=0) (ft:=3) (off:=0) (s:=1) o3 (by kernel_rfl) (by kernel_rfl) h
  obtain⟨a1,q1,k1⟩:=xX (i:=1) (ft:=9) (off:=1) (s:=1) o9 (by kernel_rfl) (by kernel_rfl) h
  obtain⟨a2,q2,k2⟩:=xX (i:=2) (ft:=9) (off:=2) (s:=1) o9 (by kernel_rfl) (by kernel_rfl) h
  obtain⟨a3,q3,k3⟩:=xX (i:=3) (ft:=3) (off:=3) (s:=1) o3 (by kernel_rfl) (by kernel_rfl) h
  obtain⟨a4,q4,k4⟩:=xX (i:=4) (ft:=3) (off:=4) (s:=1) o3 (by kernel_rfl) (by kernel_rfl) h
  obtain⟨a5,q5,k5⟩:=xX (i:=5) (ft:=3) (off:=5) (s:=1) o3 (by kernel_rfl) (by kernel_rfl) h
  obtain⟨a6,q6,k6⟩:=part_rdB (i:=6) (ft:=69) (off:=6) (s:=1) (opB_sl Tryz.underlying69 (by kernel_rfl) (by decide) ih) (by kernel_rfl) (by kernel_rfl) (Nat.le_of_lt hf) h
  obtain⟨v6,e6,s6⟩:=q6
  obtain⟨n6,s6⟩:=bFs aKj s6
  have q6:(Rp.sl (aBi n6)).rd All w ((cs.drop 6).take 1) a6:=⟨v6,e6,s6⟩
  have q:=(dV q0 (dV q1 (dV q2 (dV q3 (dV q4 (dV q5 q6 rfl) rfl) rfl) rfl) rfl) rfl)
  rw [List.drop_zero,List.take_of_length_le (by rw [hl];exact Nat.le_of_eq (by kernel_rfl))]at q
  exact⟨Cond.mk a0 a1 a2 a3 a4 a5 a6,⟨n6+1,q⟩,okCond_mk k0 k1 k2 k3 k4 k5 k6⟩
theorem o73 {H:Type}{enc:TypeId×Value->H}{w:World}{base:Nat}{sp:Nat->Bool}{held:Bool}:kW enc Tryz.prog w base sp held 73 aGz (λx=>aWs x):=by
 intro fuel cs x h
 have hl:=qG (i:=0) (ft:=9) (off:=0) (by kernel_rfl) h
 obtain⟨a0,q0,k0⟩:=xX (i:=0) (ft:=9) (off:=0) (s:=1) o9 (by kernel_rfl) (by kernel_rfl) h
 obtain⟨a1,q1,k1⟩:=xX (i:=1) (ft:=9) (off:=1) (s:=1) o9 (by kernel_rfl) (by kernel_rfl) h
 obtain⟨a2,q2,k2⟩:=xX (i:=2) (ft:=71) (off:=2) (s:=7) o71 (by kernel_rfl) (by kernel_rfl) h
 have q:=(dV q0 (dV q1 q2 rfl) rfl)
 rw [List.drop_zero,List.take_of_length_le (by rw [hl];exact Nat.le_of_eq (by kernel_rfl))]at q
 exact⟨dH.mk a0 a1 a2,q,k0,k1,k2⟩
theorem o24 {H:Type}{enc:TypeId×Value->H}{w:World}{base:Nat}{sp:Nat->Bool}{held:Bool}:kW enc Tryz.prog w base sp held 24 (Rp.sl aGz) (λx=>okL (λx=>aWs x) x):=wY Tryz.underlying24 (by kernel_rfl) (by decide) o73
theorem o112 {H:Type}{enc:TypeId×Value->H}{w:World}{base:Nat}{sp:Nat->Bool}{held:Bool}:kW enc Tryz.prog w base sp held 112 aMk (λx=>bDb x):=by
 intro fuel cs x h
 have hl:=qG (i:=0) (ft:=9) (off:=0) (by kernel_rfl) h
 obtain⟨a0,q0,k0⟩:=xX (i:=0) (ft:=9) (off:=0) (s:=1) o9 (by kernel_rfl) (by kernel_rfl) h
 obtain⟨a1,q1,k1⟩:=xX (i:=1) (ft:=71) (off:=1) (s:=7) o71 (by kernel_rfl) (by kernel_rfl) h
 have q:=(dV q0 q1 rfl)
 rw [List.drop_zero,List.take_of_length_le (by rw [hl];exact Nat.le_of_eq (by kernel_rfl))]at q
 exact⟨Rule.mk a0 a1,q,k0,k1⟩
theorem o25 {H:Type}{enc:TypeId×Value->H}{w:World}{base:Nat}{sp:Nat->Bool}{held:Bool}:kW enc Tryz.prog w base sp held 25 (Rp.sl aMk) (λx=>okL (λx=>bDb x) x):=wY Tryz.underlying25 (by kernel_rfl) (by decide) o112
theorem o27 {H:Type}{enc:TypeId×Value->H}{w:World}{base:Nat}{sp:Nat->Bool}{held:Bool}:kW enc Tryz.prog w base sp held 27 rRules (λx=>bFe x):=by
 intro fuel cs x h
 have hl:=qG (i:=0) (ft:=23) (off:=0) (by kernel_rfl) h
 obtain⟨a0,q0,k0⟩:=xX (i:=0) (ft:=23) (off:=0) (s:=1) o23 (by kernel_rfl) (by kernel_rfl) h
 obtain⟨a1,q1,k1⟩:=xX (i:=1) (ft:=24) (off:=1) (s:=1) o24 (by kernel_rfl) (by kernel_rfl) h
 obtain⟨a2,q2,k2⟩:=xX (i:=2) (ft:=25) (off:=2) (s:=1) o25 (by kernel_rfl) (by kernel_rfl) h
 have q:=(dV q0 (dV q1 q2 rfl) rfl)
 rw [List.drop_zero,List.take_of_length_le (by rw [hl];exact Nat.le_of_eq (by kernel_rfl))]at q
 exact⟨Rules.mk a0 a1 a2,q,k0,k1,k2⟩
theorem o4 {H:Type}{enc:TypeId×Value->H}{w:World}{base:Nat}{sp:Nat->Bool}{held:Bool}:kW enc Tryz.prog w base sp held 4 Rp.bool (λ_=>True):=bCj Tryz.underlying4
theorem o78 {H:Type}{enc:TypeId×Value->H}{w:World}{base:Nat}{sp:Nat->Bool}{held:Bool}:kW enc Tryz.prog w base sp held 78 mW (λx=>aVm x):=by
 intro fuel cs x h
 have hl:=qG (i:=0) (ft:=9) (off:=0) (by kernel_rfl) h
 obtain⟨a0,q0,k0⟩:=xX (i:=0) (ft:=9) (off:=0) (s:=1) o9 (by kernel_rfl) (by kernel_rfl) h
 obtain⟨a1,q1,k1⟩:=xX (i:=1) (ft:=3) (off:=1) (s:=1) o3 (by kernel_rfl) (by kernel_rfl) h
 have q:=(dV q0 q1 rfl)
 rw [List.drop_zero,List.take_of_length_le (by rw [hl];exact Nat.le_of_eq (by kernel_rfl))]at q
 exact⟨dS.mk a0 a1,q,k0,k1⟩
theorem o28 {H:Type}{enc:TypeId×Value->H}{w:World}{base:Nat}{sp:Nat->Bool}{held:Bool}:kW enc Tryz.prog w base sp held 28 (Rp.sl mW) (λx=>okL (λx=>aVm x) x):=wY Tryz.underlying28 (by kernel_rfl) (by decide) o78
theorem o30 {H:Type}{enc:TypeId×Value->H}{w:World}{base:Nat}{sp:Nat->Bool}{held:Bool}:kW enc Tryz.prog w base sp held 30 rMask (λx=>aDe x):=by
 intro fuel cs x h
 have hl:=qG (i:=0) (ft:=4) (off:=0) (by kernel_rfl) h
 obtain⟨a0,q0,k0⟩:=xX (i:=0) (ft:=4) (off:=0) (s:=1) o4 (by kernel_rfl) (by kernel_rfl) h
 obtain⟨a1,q1,k1⟩:=xX (i:=1) (ft:=3) (off:=1) (s:=1) o3 (by kernel_rfl) (by kernel_rfl) h
 obtain⟨a2,q2,k2⟩:=xX (i:=2) (ft:=23) (off:=2) (s:=1) o23 (by kernel_rfl) (by kernel_rfl) h
 obtain⟨a3,q3,k3⟩:=xX (i:=3) (ft:=28) (off:=3) (s:=1) o28 (by kernel_rfl) (by kernel_rfl) h
 obtain⟨a4,q4,k4⟩:=xX (i:=4) (ft:=3) (off:=4) (s:=1) o3 (by kernel_rfl) (by kernel_rfl) h
 have q:=(dV q0 (dV q1 (dV q2 (dV q3 q4 rfl) rfl) rfl) rfl)
 rw [List.drop_zero,List.take_of_length_le (by rw [hl];exact Nat.le_of_eq (by kernel_rfl))]at q
 exact⟨Mask.mk a0 a1 a2 a3 a4,q,k0,k1,k2,k3,k4⟩
theorem gTab0:Tryz.prog.globalNamed "internal/strconv.uint64pow10" =some 0:=by kernel_rfl
theorem gTabType0:(Tryz.prog.globals[0]?).map (·.type)=some 203:=by kernel_rfl
theorem gc203:Tryz.prog.cellsOf 203=20:=by kernel_rfl
theorem gce203:Tryz.prog.cellsOf 169=1:=by kernel_rfl
theorem gf0:Rows.fleetTableMatchesSpecRow.laid.filter (λx=>x.1== "internal/strconv.uint64pow10")=[("internal/strconv.uint64pow10",Lib.tabData .u64 [1,10,100,1000,10000,100000,1000000,10000000,100000000,1000000000,10000000000,100000000000,1000000000000,10000000000000,100000000000000,1000000000000000,10000000000000000,100000000000000000,1000000000000000000,10000000000000000000])]:=by kernel_rfl
theorem table0 {W:World}(h:laidMetH Tryz.prog Rows.fleetTableMatchesSpecRow.laid W):Lib.TabIs Tryz.prog W "internal/strconv.uint64pow10" .u64 [1,10,100,1000,10000,100000,1000000,10000000,100000000,1000000000,10000000000,100000000000,1000000000000,10000000000000,100000000000000,1000000000000000,10000000000000000,100000000000000000,1000000000000000000,10000000000000000000]:=by
 have q:=h.filter (λx=>x.1== "internal/strconv.uint64pow10")
 rw [gf0]at q
 exact Lib.tabIs_of_head (rest:=[]) gTab0 gTabType0 Tryz.underlying203 Tryz.underlying169 gce203 gc203 q
theorem tabItem0 {W:World}(h:laidMetH Tryz.prog Rows.fleetTableMatchesSpecRow.laid W):(Fz.at 0 0 ((Fl.arr 20 (Fl.int .u64)).f zW)).p (frees [] []) W:=by
 have q:=table0 h
 have c:Cells W ⟨0,0,none⟩ ((Fl.arr 20 (Fl.int .u64)).f zW):=by
  intro i v hv
  rw [Addr.add_none,Nat.zero_add]
  have hi:i<20:=by
   have h1:=(List.getElem?_eq_some_iff.1 hv).1
   exact h1
  have c:=q.cell gTab0 i hi
  have e:v= .int .u64 (([1,10,100,1000,10000,100000,1000000,10000000,100000000,1000000000,10000000000,100000000000,1000000000000,10000000000000,100000000000000,1000000000000000,10000000000000000,100000000000000000,1000000000000000000,10000000000000000000]:List Int).getD i 0):=by
   match i,hi,hv with
   |0,_,hv=>exact(Option.some.inj hv).symm
   |1,_,hv=>exact(Option.some.inj hv).symm
   |2,_,hv=>exact(Option.some.inj hv).symm
   |3,_,hv=>exact(Option.some.inj hv).symm
   |4,_,hv=>exact(Option.some.inj hv).symm
   |5,_,hv=>exact(Option.some.inj hv).symm
   |6,_,hv=>exact(Option.some.inj hv).symm
   |7,_,hv=>exact(Option.some.inj hv).symm
   |8,_,hv=>exact(Option.some.inj hv).symm
   |9,_,hv=>exact(Option.some.inj hv).symm
   |10,_,hv=>exact(Option.some.inj hv).symm
   |11,_,hv=>exact(Option.some.inj hv).symm
   |12,_,hv=>exact(Option.some.inj hv).symm
   |13,_,hv=>exact(Option.some.inj hv).symm
   |14,_,hv=>exact(Option.some.inj hv).symm
   |15,_,hv=>exact(Option.some.inj hv).symm
   |16,_,hv=>exact(Option.some.inj hv).symm
   |17,_,hv=>exact(Option.some.inj hv).symm
   |18,_,hv=>exact(Option.some.inj hv).symm
   |19,_,hv=>exact(Option.some.inj hv).symm
  rw [e];exact c
 refine⟨by simp [frees,bks],?_,c⟩
 exact World.block_lt_of_cell? _ _ (q.cell gTab0 0 (by decide))

set_option maxHeartbeats 2000000 in
set_option maxRecDepth 100000 in
theorem contract (H:Type) (enc:TypeId×Value->H) (W:World) (base:Nat) (args:Array Value) (ds gs:List (DataW H)) (before:List MemPlace)
  (hval: ∀(j:Nat) t v,Tryz.f3.params[j]? =some t->args[j]? =some v->Value.okWide Tryz.prog W .any base t v)
  (hW:DataW.Whole enc Tryz.prog Tryz.f3.params.toList Rows.fleetTableMatchesSpecSpec.vars false W args.toList ds gs before) (hL:laidMetH Tryz.prog Rows.fleetTableMatchesSpecRow.laid W):
  Calls Tryz.prog 3 args W λe W'=> ∃v,e= .returned v/\Rows.fleetTableMatchesSpecSpec.post enc Tryz.prog Tryz.f3 false true false false W args v W':=by
 have hW':=hW
 obtain⟨p,q,hA0,hV,rfl,hfz,hnd⟩:=hW
 have hA:DataW.TrodAll enc Tryz.prog W 0 (λ_=>true) true Tryz.f3.params.toList args.toList ds p:=hA0
 rw [Tryz.params3]at hA hval
 obtain⟨v0,vs0,d0,ds0,p0,q0,hargs,rfl,rfl,h0,r0⟩:=trodAll_cons hA
 obtain⟨v1,vs1,d1,ds1,p1,q1,rfl,rfl,rfl,h1,r1⟩:=trodAll_cons r0
 obtain⟨v2,vs2,d2,ds2,p2,q2,rfl,rfl,rfl,h2,r2⟩:=trodAll_cons r1
 obtain⟨v3,vs3,d3,ds3,p3,q3,rfl,rfl,rfl,h3,r3⟩:=trodAll_cons r2
 obtain⟨rfl,rfl,rfl⟩:=trodAll_nil r3
 obtain rfl:args= #[v0,v1,v2,v3]:=by cases args;simp_all
 obtain⟨rfl,rfl⟩:=trodVars_none hV
 have k0:=h0
 have lt0: ∀x∈p0,x.block<W.heap.size:=by obtain⟨m,hm⟩:=k0;exact DataW.trod_lt m _ _ _ hm
 obtain⟨fu0,hf0⟩:=h0
 obtain⟨x0,y0,z0⟩:=o22 fu0 _ _ hf0
 obtain⟨a0,n0,c0,rfl⟩:=okWide_slice Tryz.underlying22 (hval 0 22 v0 rfl rfl)
 obtain⟨u0,e0,s0_0⟩:=y0
 obtain rfl:Value.slice a0 n0 c0=u0:=by have y:[Value.slice a0 n0 c0]=[u0]:=e0;simpa using y
 have k1:=h1
 have lt1: ∀x∈p1,x.block<W.heap.size:=by obtain⟨m,hm⟩:=k1;exact DataW.trod_lt m _ _ _ hm
 obtain⟨fu1,hf1⟩:=h1
 obtain⟨x1,y1,z1⟩:=o27 fu1 _ _ hf1
 obtain⟨cs1,rfl⟩:=aOb (t:=27) (by kernel_rfl) (hval 1 27 v1 rfl rfl)
 obtain⟨u1_93,u1_94,u1_95,e1,s1_0,s1_1,s1_2⟩:=bAq y1
 obtain rfl:cs1=[u1_93,u1_94,u1_95].toArray:=by apply Array.ext';exact e1
 have k2:=h2
 have lt2: ∀x∈p2,x.block<W.heap.size:=by obtain⟨m,hm⟩:=k2;exact DataW.trod_lt m _ _ _ hm
 obtain⟨fu2,hf2⟩:=h2
 obtain⟨x2,y2,z2⟩:=o30 fu2 _ _ hf2
 obtain⟨cs2,rfl⟩:=aOb (t:=30) (by kernel_rfl) (hval 2 30 v2 rfl rfl)
 obtain⟨u2_96,u2_97,e2,s2_0,s2_1⟩:=bDw y2
 obtain rfl:cs2=[.bool x2.Tails,.int .i64 x2.Days,u2_96,u2_97,.int .i64 x2.Least].toArray:=by apply Array.ext';exact e2
 have k3:=h3
 have lt3: ∀x∈p3,x.block<W.heap.size:=by obtain⟨m,hm⟩:=k3;exact DataW.trod_lt m _ _ _ hm
 obtain⟨fu3,hf3⟩:=h3
 obtain⟨x3,y3,z3⟩:=o3 fu3 _ _ hf3
 obtain⟨a3,rfl⟩:=okWide_int Tryz.underlying3 (hval 3 3 v3 rfl rfl)
 obtain rfl:x3=a3:=by have y:[Value.int .i64 a3]=[Value.int .i64 x3]:=y3;simpa using y.symm
 clear hA0
 have HH:=(Hd.fresh0 W).fzs [.sl sN (.slice a0 n0 c0) x0,.sl Rp.str u1_93 x1.Phases,.sl aGz u1_94 x1.Moves,.sl aMk u1_95 x1.Rules,.sl Rp.str u2_96 x2.Hide,.sl mW u2_97 x2.Grains,.at 0 0 ((Fl.arr 20 (Fl.int .u64)).f zW)] ⟨aFn s0_0,aFn s1_0,aFn s1_1,aFn s1_2,aFn s2_0,aFn s2_1,tabItem0 hL,trivial⟩
 refine(L.Fgqw x0 x1 x2 x3 (.slice a0 n0 c0) u1_93 u1_94 u1_95 u2_96 u2_97 true (aQr x0 x1 x2 x3 z0 z1 z2 z3) HH).mono λe W' ⟨he,G⟩=>?_
 subst he
 have bel:Below W.heap.size W W':=G.only.below
 exact⟨_,rfl,_,_,_,[],_,[],hW',trodAll_mk1 (shut_bool Tryz.underlying4 _),(trodAll_cons_mk (Below.trod laidOut (by kernel_rfl) (of_decide_eq_true (by kernel_rfl)) k0 bel lt0) (trodAll_cons_mk (Below.trod laidOut (by kernel_rfl) (of_decide_eq_true (by kernel_rfl)) k1 bel lt1) (trodAll_cons_mk (Below.trod laidOut (by kernel_rfl) (of_decide_eq_true (by kernel_rfl)) k2 bel lt2) (trodAll_cons_mk (Below.trod laidOut (by kernel_rfl) (of_decide_eq_true (by kernel_rfl)) k3 bel lt3) trodAll_mk0)))),rfl,bel.frame _,λh=>by cases h⟩

noncomputable def laidWorld (os:Os):World:=
 {World.holding Tryz.prog os ⟨#[],#[],[]⟩with heap:=((((World.holding Tryz.prog os ⟨#[],#[],[]⟩).heap.modify 1 λ
   | .cells _ t frozen=> .cells #[.int .u8 0,.int .u8 1,.int .u8 28,.int .u8 2,.int .u8 29,.int .u8 14,.int .u8 24,.int .u8 3,.int .u8 30,.int .u8 22,.int .u8 20,.int .u8 15,.int .u8 25,.int .u8 17,.int .u8 4,.int .u8 8,.int .u8 31,.int .u8 27,.int .u8 13,.int .u8 23,.int .u8 21,.int .u8 19,.int .u8 16,.int .u8 7,.int .u8 26,.int .u8 12,.int .u8 18,.int .u8 6,.int .u8 11,.int .u8 5,.int .u8 10,.int .u8 9] t frozen
   |o=>o).modify 2 λ
   | .cells _ t frozen=> .cells #[.int .u8 0,.int .u8 1,.int .u8 56,.int .u8 2,.int .u8 57,.int .u8 49,.int .u8 28,.int .u8 3,.int .u8 61,.int .u8 58,.int .u8 42,.int .u8 50,.int .u8 38,.int .u8 29,.int .u8 17,.int .u8 4,.int .u8 62,.int .u8 47,.int .u8 59,.int .u8 36,.int .u8 45,.int .u8 43,.int .u8 51,.int .u8 22,.int .u8 53,.int .u8 39,.int .u8 33,.int .u8 30,.int .u8 24,.int .u8 18,.int .u8 12,.int .u8 5,.int .u8 63,.int .u8 55,.int .u8 48,.int .u8 27,.int .u8 60,.int .u8 41,.int .u8 37,.int .u8 16,.int .u8 46,.int .u8 35,.int .u8 44,.int .u8 21,.int .u8 52,.int .u8 32,.int .u8 23,.int .u8 11,.int .u8 54,.int .u8 26,.int .u8 40,.int .u8 15,.int .u8 34,.int .u8 20,.int .u8 31,.int .u8 10,.int .u8 25,.int .u8 14,.int .u8 19,.int .u8 9,.int .u8 13,.int .u8 8,.int .u8 7,.int .u8 6] t frozen
   |o=>o).modify 0 λ
   | .cells _ t frozen=> .cells #[.int .u64 1,.int .u64 10,.int .u64 100,.int .u64 1000,.int .u64 10000,.int .u64 100000,.int .u64 1000000,.int .u64 10000000,.int .u64 100000000,.int .u64 1000000000,.int .u64 10000000000,.int .u64 100000000000,.int .u64 1000000000000,.int .u64 10000000000000,.int .u64 100000000000000,.int .u64 1000000000000000,.int .u64 10000000000000000,.int .u64 100000000000000000,.int .u64 1000000000000000000,.int .u64 10000000000000000000] t frozen
   |o=>o)}
theorem laid_met (os:Os):laidMet Tryz.prog Rows.fleetTableMatchesSpecRow.laid ((laidWorld os).forCall (λ_ _=>0) ⟨#[],#[.slice none 0 0,Value.agg #[.slice none 0 0,.slice none 0 0,.slice none 0 0],Value.agg #[.bool false,.int .i64 0,.slice none 0 0,.slice none 0 0,.int .i64 0],.int .i64 0],[]⟩).memory:=
 laidMet_of_run' 8 (by kernel_rfl) (by kernel_rfl)
theorem reads (os:Os){H:Type}(enc:TypeId×Value->H): ∃places,DataW.whole enc Tryz.prog ((laidWorld os).forCall (λ_ _=>0) ⟨#[],#[.slice none 0 0,Value.agg #[.slice none 0 0,.slice none 0 0,.slice none 0 0],Value.agg #[.bool false,.int .i64 0,.slice none 0 0,.slice none 0 0,.int .i64 0],.int .i64 0],[]⟩).memory Tryz.f3.params.toList Rows.fleetTableMatchesSpecSpec.vars false #[(.slice none 0 0:Value),Value.agg #[.slice none 0 0,.slice none 0 0,.slice none 0 0],Value.agg #[.bool false,.int .i64 0,.slice none 0 0,.slice none 0 0,.int .i64 0],.int .i64 0].toList 8=some ([.nil,.agg [.nil,.nil,.nil],.agg [.lit (.bool false),.lit (.int .i64 0),.nil,.nil,.lit (.int .i64 0)],.lit (.int .i64 0)],[],places):=
 ⟨[],by kernel_rfl⟩

set_option maxRecDepth 100000 in
theorem lifted (os:Os)(started:os.Started)(H:Type)(enc:TypeId×Value->H)(F:Stop.Interp):
  ReturnsInHanded {} Tryz.checked os 3 .any ((OpenSpec.ofChange Rows.fleetTableMatchesSpecSpec).preRow enc Tryz.prog Tryz.f3 Rows.fleetTableMatchesSpecRow.domain false Rows.fleetTableMatchesSpecRow.laid) (((OpenSpec.ofChange Rows.fleetTableMatchesSpecSpec).at F).post enc Tryz.prog Tryz.f3 false true false false):=by
 obtain⟨places,hx⟩:=reads os enc
 refine returnsInHanded_of_row (C:=Tryz.checked) (s:=(OpenSpec.ofChange Rows.fleetTableMatchesSpecSpec)) own started (by kernel_rfl) Tryz.func3
  (witness_row_at (enc:=enc) (C:=Tryz.checked) false (laidWorld os) #[.slice none 0 0,Value.agg #[.slice none 0 0,.slice none 0 0,.slice none 0 0],Value.agg #[.bool false,.int .i64 0,.slice none 0 0,.slice none 0 0,.int .i64 0],.int .i64 0] rfl (by kernel_rfl) (by kernel_rfl) (by kernel_rfl)
   (OpenSpec.preRow_of_cond 8 hx (by kernel_rfl) (λk hk=>by cases hk) (by kernel_rfl) (laid_met os))) ?_
 intro W base args ds gs before hval hW _ _ _ hL _ _
 exact contract H enc W base args ds gs before hval hW hL

theorem said:Rows.FleetTableMatchesSpecSaid:=
 OpenClaim.holds_of_cond 3 Tryz.f3 rfl rfl rfl rfl rfl rfl rfl ⟨rfl,rfl,rfl,rfl,rfl⟩ rfl rfl rfl rfl rfl (by kernel_rfl) Tryz.func3 closedF
  (of_decide_eq_true (by kernel_rfl)) (by unfold Func.isWrapper;first |(rw [if_pos (by decide+kernel)];kernel_rfl)|(rw [if_neg (by decide+kernel)];exact⟨rfl,rfl⟩))
  (λos started H enc _ F=>by rw [OpenClaim.pre_eq_preRow];exact lifted os started H enc F)
theorem plainP (f:FuncId)(fn:Func)(hf:Tryz.pinned.checked.prog.funcNamed "orangebox/orangeboxlaw9.FleetTableMatchesSpec" =some f)(hfn:Tryz.pinned.checked.prog.funcs[f]? =some fn):
  false=Tryz.pinned.checked.prog.looks []/\ ∀(j:Nat) t,fn.params[j]? =some t->Tryz.pinned.checked.prog.wantsStandIn t=false:=by
 obtain rfl:f=3:=Option.some.inj ((show Tryz.prog.funcNamed "orangebox/orangeboxlaw9.FleetTableMatchesSpec" =some 3 by kernel_rfl).symm.trans hf)|>.symm
 obtain rfl:fn=Tryz.f3:=(Option.some.inj (Tryz.func3.symm.trans hfn)).symm
 refine⟨looksF,λj t ht=>?_⟩
 rw [Tryz.params3]at ht
 have hall:(#[22,27,30,3]:Array TypeId).toList.all (λt=> !Tryz.prog.wantsStandIn t)=true:=by kernel_rfl
 have q:=List.all_eq_true.1 hall t (Array.mem_toList_iff.2 (Array.mem_of_getElem? ht))
 have q2:Tryz.prog.wantsStandIn t=false:=by simpa using q
 exact q2
theorem card:Rows.FleetTableMatchesSpecCardSaid:=
 Claim7.holds_tied_plain_at .later [] _ _ _ _ said (λ_ h=>by cases h) (by kernel_rfl) (λ_ h=>by cases h) fleetTableMatchesSpec_row_tie rfl ⟨rfl,rfl⟩ (by kernel_rfl) rfl plainP goesF
end Go.Proofs.YtibkjjklfhfipacGreatDoor.fleetTableMatchesSpec
