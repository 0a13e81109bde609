/- The tied card: for every input the law's function returns true and each argument reads as it did. Condition: the package variables that the row lists hold what the program's text lays there. -/
import Derived.Test.YtibkjjklfhfipabGreatDoorTie
import Derived.Test.YtibkjjklfhfipabGreatDoorUV6
import Derived.Test.YtibkjjklfhfipabGreatDoorGEa
import Derived.Test.YtibkjjklfhfipabGreatDoorLay1
import Derived.Test.YtibkjjklfhfipabGreatDoorOPb
import Derived.Test.YtibkjjklfhfipabGreatDoorFEvents
namespace Go.Proofs.YtibkjjklfhfipabGreatDoor.fleetEventsMatchSpec
open Go.ChangeShapes Go.WideShapes Go.ChangeAt Go.RowKit
open Go.OB Go.Lf
theorem laidOut:laidOutB Tryz.prog=true:=aOi
theorem own:ownKnob Tryz.prog.godebug=none:=by kernel_rfl
theorem o9 {H:Type}{enc:TypeId×Value->H}{w:World}{base:Nat}{sp:Nat->Bool}{held:Bool}:mY enc Tryz.prog w base sp held 9 Rp.str (λx=>okS x):=opens_str Tryz.underlying9
theorem o3 {H:Type}{enc:TypeId×Value->H}{w:World}{base:Nat}{sp:Nat->Bool}{held:Bool}:mY enc Tryz.prog w base sp held 3 (Rp.int .i64) (λx=>i64 x):=opens_i64 Tryz.underlying3
theorem o126 {H:Type}{enc:TypeId×Value->H}{w:World}{base:Nat}{sp:Nat->Bool}{held:Bool}:mY enc Tryz.prog w base sp held 126 dQ (λx=>aJs x):=by
 intro fuel cs x h
 have hl:=sU (i:=0) (ft:=3) (off:=0) (by kernel_rfl) h
 obtain⟨a0,q0,k0⟩:=dC (i:=0) (ft:=3) (off:=0) (s:=1) o3 (by kernel_rfl) (by kernel_rfl) h
 obtain⟨a1,q1,k1⟩:=dC (i:=1) (ft:=3) (off:=1) (s:=1) o3 (by kernel_rfl) (by kernel_rfl) h
 obtain⟨a2,q2,k2⟩:=dC (i:=2) (ft:=3) (off:=2) (s:=1) o3 (by kernel_rfl) (by kernel_rfl) h
 have q:=(aA q0 (aA q1 q2 rfl) rfl)
 rw [List.drop_zero,List.take_of_length_le (by rw [hl];exact Nat.le_of_eq (by kernel_rfl))]at q
 exact⟨eH.mk a0 a1 a2,q,k0,k1,k2⟩
theorem o78 {H:Type}{enc:TypeId×Value->H}{w:World}{base:Nat}{sp:Nat->Bool}{held:Bool}:mY enc Tryz.prog w base sp held 78 (Rp.sl dQ) (λx=>okL (λx=>aJs x) x):=aBx Tryz.underlying78 (by kernel_rfl) (by decide) o126
theorem o80 {H:Type}{enc:TypeId×Value->H}{w:World}{base:Nat}{sp:Nat->Bool}{held:Bool}:mY enc Tryz.prog w base sp held 80 bAh (λx=>aUt x):=by
 intro fuel cs x h
 have hl:=sU (i:=0) (ft:=3) (off:=0) (by kernel_rfl) h
 obtain⟨a0,q0,k0⟩:=dC (i:=0) (ft:=3) (off:=0) (s:=1) o3 (by kernel_rfl) (by kernel_rfl) h
 obtain⟨a1,q1,k1⟩:=dC (i:=1) (ft:=78) (off:=1) (s:=1) o78 (by kernel_rfl) (by kernel_rfl) h
 have q:=(aA q0 q1 rfl)
 rw [List.drop_zero,List.take_of_length_le (by rw [hl];exact Nat.le_of_eq (by kernel_rfl))]at q
 exact⟨Series.mk a0 a1,q,k0,k1⟩
theorem o82 {H:Type}{enc:TypeId×Value->H}{w:World}{base:Nat}{sp:Nat->Bool}{held:Bool}:mY enc Tryz.prog w base sp held 82 aN (λx=>aCr x):=by
 intro fuel cs x h
 have hl:=sU (i:=0) (ft:=9) (off:=0) (by kernel_rfl) h
 obtain⟨a0,q0,k0⟩:=dC (i:=0) (ft:=9) (off:=0) (s:=1) o9 (by kernel_rfl) (by kernel_rfl) h
 obtain⟨a1,q1,k1⟩:=dC (i:=1) (ft:=80) (off:=1) (s:=2) o80 (by kernel_rfl) (by kernel_rfl) h
 obtain⟨a2,q2,k2⟩:=dC (i:=2) (ft:=3) (off:=3) (s:=1) o3 (by kernel_rfl) (by kernel_rfl) h
 have q:=(aA q0 (aA q1 q2 rfl) rfl)
 rw [List.drop_zero,List.take_of_length_le (by rw [hl];exact Nat.le_of_eq (by kernel_rfl))]at q
 exact⟨gW.mk a0 a1 a2,q,k0,k1,k2⟩
theorem o22 {H:Type}{enc:TypeId×Value->H}{w:World}{base:Nat}{sp:Nat->Bool}{held:Bool}:mY enc Tryz.prog w base sp held 22 (Rp.sl aN) (λx=>okL (λx=>aCr x) x):=aBx Tryz.underlying22 (by kernel_rfl) (by decide) o82
theorem o24 {H:Type}{enc:TypeId×Value->H}{w:World}{base:Nat}{sp:Nat->Bool}{held:Bool}:mY enc Tryz.prog w base sp held 24 aZf (λx=>aBs x):=by
 intro fuel cs x h
 have hl:=sU (i:=0) (ft:=9) (off:=0) (by kernel_rfl) h
 obtain⟨a0,q0,k0⟩:=dC (i:=0) (ft:=9) (off:=0) (s:=1) o9 (by kernel_rfl) (by kernel_rfl) h
 obtain⟨a1,q1,k1⟩:=dC (i:=1) (ft:=9) (off:=1) (s:=1) o9 (by kernel_rfl) (by kernel_rfl) h
 obtain⟨a2,q2,k2⟩:=dC (i:=2) (ft:=3) (off:=2) (s:=1) o3 (by kernel_rfl) (by kernel_rfl) h
 obtain⟨a3,q3,k3⟩:=dC (i:=3) (ft:=3) (off:=3) (s:=1) o3 (by kernel_rfl) (by kernel_rfl) h
 obtain⟨a4,q4,k4⟩:=dC (i:=4) (ft:=3) (off:=4) (s:=1) o3 (by kernel_rfl) (by kernel_rfl) h
 obtain⟨a5,q5,k5⟩:=dC (i:=5) (ft:=22) (off:=5) (s:=1) o22 (by kernel_rfl) (by kernel_rfl) h
 have q:=(aA q0 (aA q1 (aA q2 (aA q3 (aA q4 q5 rfl) rfl) rfl) rfl) rfl)
 rw [List.drop_zero,List.take_of_length_le (by rw [hl];exact Nat.le_of_eq (by kernel_rfl))]at q
 exact⟨Flight.mk a0 a1 a2 a3 a4 a5,q,k0,k1,k2,k3,k4,k5⟩
theorem o25 {H:Type}{enc:TypeId×Value->H}{w:World}{base:Nat}{sp:Nat->Bool}{held:Bool}:mY enc Tryz.prog w base sp held 25 (Rp.sl Rp.str) (λx=>okL (λx=>okS x) x):=aBx Tryz.underlying25 (by kernel_rfl) (by decide) o9
theorem o88 {H:Type}{enc:TypeId×Value->H}{w:World}{base:Nat}{sp:Nat->Bool}{held:Bool}:mY enc Tryz.prog w base sp held 88 dP (λx=>aKu x):=opens_of λM=>by
 induction M with
 |zero=>intro fuel cs x hf h;exact absurd hf (Nat.not_lt_zero _)
 |succ M ih=>
  intro fuel cs x hf h
  have hl:=sU (i:=0) (ft:=3) (off:=0) (by kernel_rfl) h
  obtain⟨a0,q0,k0⟩:=dC (i:=0) (ft:=3) (off:=0) (s:=1) o3 (by kernel_rfl) (by kernel_rfl) h
  obtain⟨a1,q1,k1⟩:=dC (i:=1) (ft:=9) (off:=1) (s:=1) o9 (by kernel_rfl) (by kernel_rfl) h
  obtain⟨a2,q2,k2⟩:=dC (i:=2) (ft:=9) (off:=2) (s:=1) o9 (by kernel_rfl) (by kernel_rfl) h
  obtain⟨a3,q3,k3⟩:=dC (i:=3) (ft:=3) (off:=3) (s:=1) o3 (by kernel_rfl) (by kernel_rfl) h
  obtain⟨a4,q4,k4⟩:=dC (i:=4) (ft:=3) (off:=4) (s:=1) o3 (by kernel_rfl) (by kernel_rfl) h
  obtain⟨a5,q5,k5⟩:=dC (i:=5) (ft:=3) (off:=5) (s:=1) o3 (by kernel_rfl) (by kernel_rfl) h
  obtain⟨a6,q6,k6⟩:=part_rdB (i:=6) (ft:=86) (off:=6) (s:=1) (opB_sl Tryz.underlying86 (by kernel_rfl) (by decide) ih) (by kernel_rfl) (by kernel_rfl) (Nat.le_of_lt hf) h
  obtain⟨v6,e6,s6⟩:=q6
  obtain⟨n6,s6⟩:=aZj aGi s6
  have q6:(Rp.sl (wB n6)).rd All w ((cs.drop 6).take 1) a6:=⟨v6,e6,s6⟩
  have q:=(aA q0 (aA q1 (aA q2 (aA q3 (aA q4 (aA q5 q6 rfl) rfl) rfl) rfl) rfl) rfl)
  rw [List.drop_zero,List.take_of_length_le (by rw [hl];exact Nat.le_of_eq (by kernel_rfl))]at q
  exact⟨Cond.mk a0 a1 a2 a3 a4 a5 a6,⟨n6+1,q⟩,okCond_mk k0 k1 k2 k3 k4 k5 k6⟩
theorem o103 {H:Type}{enc:TypeId×Value->H}{w:World}{base:Nat}{sp:Nat->Bool}{held:Bool}:mY enc Tryz.prog w base sp held 103 aBm (λx=>aQg x):=by
 intro fuel cs x h
 have hl:=sU (i:=0) (ft:=9) (off:=0) (by kernel_rfl) h
 obtain⟨a0,q0,k0⟩:=dC (i:=0) (ft:=9) (off:=0) (s:=1) o9 (by kernel_rfl) (by kernel_rfl) h
 obtain⟨a1,q1,k1⟩:=dC (i:=1) (ft:=9) (off:=1) (s:=1) o9 (by kernel_rfl) (by kernel_rfl) h
 obtain⟨a2,q2,k2⟩:=dC (i:=2) (ft:=88) (off:=2) (s:=7) o88 (by kernel_rfl) (by kernel_rfl) h
 have q:=(aA q0 (aA q1 q2 rfl) rfl)
 rw [List.drop_zero,List.take_of_length_le (by rw [hl];exact Nat.le_of_eq (by kernel_rfl))]at q
 exact⟨eY.mk a0 a1 a2,q,k0,k1,k2⟩
theorem o26 {H:Type}{enc:TypeId×Value->H}{w:World}{base:Nat}{sp:Nat->Bool}{held:Bool}:mY enc Tryz.prog w base sp held 26 (Rp.sl aBm) (λx=>okL (λx=>aQg x) x):=aBx Tryz.underlying26 (by kernel_rfl) (by decide) o103
theorem o109 {H:Type}{enc:TypeId×Value->H}{w:World}{base:Nat}{sp:Nat->Bool}{held:Bool}:mY enc Tryz.prog w base sp held 109 aFy (λx=>aWv x):=by
 intro fuel cs x h
 have hl:=sU (i:=0) (ft:=9) (off:=0) (by kernel_rfl) h
 obtain⟨a0,q0,k0⟩:=dC (i:=0) (ft:=9) (off:=0) (s:=1) o9 (by kernel_rfl) (by kernel_rfl) h
 obtain⟨a1,q1,k1⟩:=dC (i:=1) (ft:=88) (off:=1) (s:=7) o88 (by kernel_rfl) (by kernel_rfl) h
 have q:=(aA q0 q1 rfl)
 rw [List.drop_zero,List.take_of_length_le (by rw [hl];exact Nat.le_of_eq (by kernel_rfl))]at q
 exact⟨Rule.mk a0 a1,q,k0,k1⟩
theorem o27 {H:Type}{enc:TypeId×Value->H}{w:World}{base:Nat}{sp:Nat->Bool}{held:Bool}:mY enc Tryz.prog w base sp held 27 (Rp.sl aFy) (λx=>okL (λx=>aWv x) x):=aBx Tryz.underlying27 (by kernel_rfl) (by decide) o109
theorem o29 {H:Type}{enc:TypeId×Value->H}{w:World}{base:Nat}{sp:Nat->Bool}{held:Bool}:mY enc Tryz.prog w base sp held 29 rRules (λx=>bBq x):=by
 intro fuel cs x h
 have hl:=sU (i:=0) (ft:=25) (off:=0) (by kernel_rfl) h
 obtain⟨a0,q0,k0⟩:=dC (i:=0) (ft:=25) (off:=0) (s:=1) o25 (by kernel_rfl) (by kernel_rfl) h
 obtain⟨a1,q1,k1⟩:=dC (i:=1) (ft:=26) (off:=1) (s:=1) o26 (by kernel_rfl) (by kernel_rfl) h
 obtain⟨a2,q2,k2⟩:=dC (i:=2) (ft:=27) (off:=2) (s:=1) o27 (by kernel_rfl) (by kernel_rfl) h
 have q:=(aA q0 (aA q1 q2 rfl) rfl)
 rw [List.drop_zero,List.take_of_length_le (by rw [hl];exact Nat.le_of_eq (by kernel_rfl))]at q
 exact⟨Rules.mk a0 a1 a2,q,k0,k1,k2⟩
theorem gTab0:Tryz.prog.globalNamed "internal/strconv.uint64pow10" =some 0:=by kernel_rfl
theorem gTabType0:(Tryz.prog.globals[0]?).map (·.type)=some 237:=by kernel_rfl
theorem gc237:Tryz.prog.cellsOf 237=20:=by kernel_rfl
theorem gce237:Tryz.prog.cellsOf 172=1:=by kernel_rfl
theorem gf0:Rows.fleetEventsMatchSpecRow.laid.filter (λx=>x.1== "internal/strconv.uint64pow10")=[("internal/strconv.uint64pow10",Lib.tabData .u64 [1,10,100,1000,10000,100000,1000000,10000000,100000000,1000000000,10000000000,100000000000,1000000000000,10000000000000,100000000000000,1000000000000000,10000000000000000,100000000000000000,1000000000000000000,10000000000000000000])]:=by kernel_rfl
theorem table0 {W:World}(h:laidMetH Tryz.prog Rows.fleetEventsMatchSpecRow.laid W):Lib.TabIs Tryz.prog W "internal/strconv.uint64pow10" .u64 [1,10,100,1000,10000,100000,1000000,10000000,100000000,1000000000,10000000000,100000000000,1000000000000,10000000000000,100000000000000,1000000000000000,10000000000000000,100000000000000000,1000000000000000000,10000000000000000000]:=by
 have q:=h.filter (λx=>x.1== "internal/strconv.uint64pow10")
 rw [gf0]at q
 exact Lib.tabIs_of_head (rest:=[]) gTab0 gTabType0 Tryz.underlying237 Tryz.underlying172 gce237 gc237 q
theorem tabItem0 {W:World}(h:laidMetH Tryz.prog Rows.fleetEventsMatchSpecRow.laid W):(Fz.at 0 0 ((Fl.arr 20 (Fl.int .u64)).f zX)).p (frees [] []) W:=by
 have q:=table0 h
 have c:Cells W ⟨0,0,none⟩ ((Fl.arr 20 (Fl.int .u64)).f zX):=by
  intro i v hv
  rw [Addr.add_none,Nat.zero_add]
  have hi:i<20:=by
   have h1:=(List.getElem?_eq_some_iff.1 hv).1
   exact h1
  have c:=q.cell gTab0 i hi
  have e:v= .int .u64 (([1,10,100,1000,10000,100000,1000000,10000000,100000000,1000000000,10000000000,100000000000,1000000000000,10000000000000,100000000000000,1000000000000000,10000000000000000,100000000000000000,1000000000000000000,10000000000000000000]:List Int).getD i 0):=by
   match i,hi,hv with
   |0,_,hv=>exact(Option.some.inj hv).symm
   |1,_,hv=>exact(Option.some.inj hv).symm
   |2,_,hv=>exact(Option.some.inj hv).symm
   |3,_,hv=>exact(Option.some.inj hv).symm
   |4,_,hv=>exact(Option.some.inj hv).symm
   |5,_,hv=>exact(Option.some.inj hv).symm
   |6,_,hv=>exact(Option.some.inj hv).symm
   |7,_,hv=>exact(Option.some.inj hv).symm
   |8,_,hv=>exact(Option.some.inj hv).symm
   |9,_,hv=>exact(Option.some.inj hv).symm
   |10,_,hv=>exact(Option.some.inj hv).symm
   |11,_,hv=>exact(Option.some.inj hv).symm
   |12,_,hv=>exact(Option.some.inj hv).symm
   |13,_,hv=>exact(Option.some.inj hv).symm
   |14,_,hv=>exact(Option.some.inj hv).symm
   |15,_,hv=>exact(Option.some.inj hv).symm
   |16,_,hv=>exact(Option.some.inj hv).symm
   |17,_,hv=>exact(Option.some.inj hv).symm
   |18,_,hv=>exact(Option.some.inj hv).symm
   |19,_,hv=>exact(Option.some.inj hv).symm
  rw [e];exact c
 refine⟨by simp [frees,bks],?_,c⟩
 exact World.block_lt_of_cell? _ _ (q.cell gTab0 0 (by decide))

set_option maxHeartbeats 2000000 in
set_option maxRecDepth 100000 in
theorem contract (H:Type) (enc:TypeId×Value->H) (W:World) (base:Nat) (args:Array Value) (ds gs:List (DataW H)) (before:List MemPlace)
  (hval: ∀(j:Nat) t v,Tryz.f3.params[j]? =some t->args[j]? =some v->Value.okWide Tryz.prog W .any base t v)
  (hW:DataW.Whole enc Tryz.prog Tryz.f3.params.toList Rows.fleetEventsMatchSpecSpec.vars false W args.toList ds gs before) (hL:laidMetH Tryz.prog Rows.fleetEventsMatchSpecRow.laid W):
  Calls Tryz.prog 3 args W λe W'=> ∃v,e= .returned v/\Rows.fleetEventsMatchSpecSpec.post enc Tryz.prog Tryz.f3 false true false false W args v W':=by
 have hW':=hW
 obtain⟨p,q,hA0,hV,rfl,hfz,hnd⟩:=hW
 have hA:DataW.TrodAll enc Tryz.prog W 0 (λ_=>true) true Tryz.f3.params.toList args.toList ds p:=hA0
 rw [Tryz.params3]at hA hval
 obtain⟨v0,vs0,d0,ds0,p0,q0,hargs,rfl,rfl,h0,r0⟩:=trodAll_cons hA
 obtain⟨v1,vs1,d1,ds1,p1,q1,rfl,rfl,rfl,h1,r1⟩:=trodAll_cons r0
 obtain⟨rfl,rfl,rfl⟩:=trodAll_nil r1
 obtain rfl:args= #[v0,v1]:=by cases args;simp_all
 obtain⟨rfl,rfl⟩:=trodVars_none hV
 have k0:=h0
 have lt0: ∀x∈p0,x.block<W.heap.size:=by obtain⟨m,hm⟩:=k0;exact DataW.trod_lt m _ _ _ hm
 obtain⟨fu0,hf0⟩:=h0
 obtain⟨x0,y0,z0⟩:=o24 fu0 _ _ hf0
 obtain⟨cs0,rfl⟩:=aKm (t:=24) (by kernel_rfl) (hval 0 24 v0 rfl rfl)
 obtain⟨u0_136,e0,s0_0⟩:=aPj y0
 obtain rfl:cs0=[.string (bs x0.Tail),.string (bs x0.Route),.int .i64 x0.Day,.int .i64 x0.From,.int .i64 x0.To,u0_136].toArray:=by apply Array.ext';exact e0
 have k1:=h1
 have lt1: ∀x∈p1,x.block<W.heap.size:=by obtain⟨m,hm⟩:=k1;exact DataW.trod_lt m _ _ _ hm
 obtain⟨fu1,hf1⟩:=h1
 obtain⟨x1,y1,z1⟩:=o29 fu1 _ _ hf1
 obtain⟨cs1,rfl⟩:=aKm (t:=29) (by kernel_rfl) (hval 1 29 v1 rfl rfl)
 obtain⟨u1_137,u1_138,u1_139,e1,s1_0,s1_1,s1_2⟩:=aSu y1
 obtain rfl:cs1=[u1_137,u1_138,u1_139].toArray:=by apply Array.ext';exact e1
 clear hA0
 have HH:=(Hd.fresh0 W).fzs [.sl aN u0_136 x0.Tracks,.sl Rp.str u1_137 x1.Phases,.sl aBm u1_138 x1.Moves,.sl aFy u1_139 x1.Rules,.at 0 0 ((Fl.arr 20 (Fl.int .u64)).f zX)] ⟨aIi s0_0,aIi s1_0,aIi s1_1,aIi s1_2,tabItem0 hL,trivial⟩
 refine(L.Ffnw x0 x1 u0_136 u1_137 u1_138 u1_139 true (aHz x0 x1 z0 z1) HH).mono λe W' ⟨he,G⟩=>?_
 subst he
 have bel:Below W.heap.size W W':=G.only.below
 exact⟨_,rfl,_,_,_,[],_,[],hW',trodAll_mk1 (shut_bool Tryz.underlying4 _),(trodAll_cons_mk (Below.trod laidOut (by kernel_rfl) (of_decide_eq_true (by kernel_rfl)) k0 bel lt0) (trodAll_cons_mk (Below.trod laidOut (by kernel_rfl) (of_decide_eq_true (by kernel_rfl)) k1 bel lt1) trodAll_mk0)),rfl,bel.frame _,λh=>by cases h⟩

noncomputable def laidWorld (os:Os):World:=
 {World.holding Tryz.prog os ⟨#[],#[],[]⟩with heap:=((((World.holding Tryz.prog os ⟨#[],#[],[]⟩).heap.modify 2 λ
   | .cells _ t frozen=> .cells #[.int .u8 0,.int .u8 1,.int .u8 28,.int .u8 2,.int .u8 29,.int .u8 14,.int .u8 24,.int .u8 3,.int .u8 30,.int .u8 22,.int .u8 20,.int .u8 15,.int .u8 25,.int .u8 17,.int .u8 4,.int .u8 8,.int .u8 31,.int .u8 27,.int .u8 13,.int .u8 23,.int .u8 21,.int .u8 19,.int .u8 16,.int .u8 7,.int .u8 26,.int .u8 12,.int .u8 18,.int .u8 6,.int .u8 11,.int .u8 5,.int .u8 10,.int .u8 9] t frozen
   |o=>o).modify 3 λ
   | .cells _ t frozen=> .cells #[.int .u8 0,.int .u8 1,.int .u8 56,.int .u8 2,.int .u8 57,.int .u8 49,.int .u8 28,.int .u8 3,.int .u8 61,.int .u8 58,.int .u8 42,.int .u8 50,.int .u8 38,.int .u8 29,.int .u8 17,.int .u8 4,.int .u8 62,.int .u8 47,.int .u8 59,.int .u8 36,.int .u8 45,.int .u8 43,.int .u8 51,.int .u8 22,.int .u8 53,.int .u8 39,.int .u8 33,.int .u8 30,.int .u8 24,.int .u8 18,.int .u8 12,.int .u8 5,.int .u8 63,.int .u8 55,.int .u8 48,.int .u8 27,.int .u8 60,.int .u8 41,.int .u8 37,.int .u8 16,.int .u8 46,.int .u8 35,.int .u8 44,.int .u8 21,.int .u8 52,.int .u8 32,.int .u8 23,.int .u8 11,.int .u8 54,.int .u8 26,.int .u8 40,.int .u8 15,.int .u8 34,.int .u8 20,.int .u8 31,.int .u8 10,.int .u8 25,.int .u8 14,.int .u8 19,.int .u8 9,.int .u8 13,.int .u8 8,.int .u8 7,.int .u8 6] t frozen
   |o=>o).modify 0 λ
   | .cells _ t frozen=> .cells #[.int .u64 1,.int .u64 10,.int .u64 100,.int .u64 1000,.int .u64 10000,.int .u64 100000,.int .u64 1000000,.int .u64 10000000,.int .u64 100000000,.int .u64 1000000000,.int .u64 10000000000,.int .u64 100000000000,.int .u64 1000000000000,.int .u64 10000000000000,.int .u64 100000000000000,.int .u64 1000000000000000,.int .u64 10000000000000000,.int .u64 100000000000000000,.int .u64 1000000000000000000,.int .u64 10000000000000000000] t frozen
   |o=>o)}
theorem laid_met (os:Os):laidMet Tryz.prog Rows.fleetEventsMatchSpecRow.laid ((laidWorld os).forCall (λ_ _=>0) ⟨#[],#[Value.agg #[.string ⟨#[]⟩,.string ⟨#[]⟩,.int .i64 0,.int .i64 0,.int .i64 0,.slice none 0 0],Value.agg #[.slice none 0 0,.slice none 0 0,.slice none 0 0]],[]⟩).memory:=
 laidMet_of_run' 8 (by kernel_rfl) (by kernel_rfl)
theorem reads (os:Os){H:Type}(enc:TypeId×Value->H): ∃places,DataW.whole enc Tryz.prog ((laidWorld os).forCall (λ_ _=>0) ⟨#[],#[Value.agg #[.string ⟨#[]⟩,.string ⟨#[]⟩,.int .i64 0,.int .i64 0,.int .i64 0,.slice none 0 0],Value.agg #[.slice none 0 0,.slice none 0 0,.slice none 0 0]],[]⟩).memory Tryz.f3.params.toList Rows.fleetEventsMatchSpecSpec.vars false #[(Value.agg #[.string ⟨#[]⟩,.string ⟨#[]⟩,.int .i64 0,.int .i64 0,.int .i64 0,.slice none 0 0]:Value),Value.agg #[.slice none 0 0,.slice none 0 0,.slice none 0 0]].toList 8=some ([.agg [.lit (.string []),.lit (.string []),.lit (.int .i64 0),.lit (.int .i64 0),.lit (.int .i64 0),.nil],.agg [.nil,.nil,.nil]],[],places):=
 ⟨[],by kernel_rfl⟩

set_option maxRecDepth 100000 in
theorem lifted (os:Os)(started:os.Started)(H:Type)(enc:TypeId×Value->H)(F:Stop.Interp):
  ReturnsInHanded {} Tryz.checked os 3 .any ((OpenSpec.ofChange Rows.fleetEventsMatchSpecSpec).preRow enc Tryz.prog Tryz.f3 Rows.fleetEventsMatchSpecRow.domain false Rows.fleetEventsMatchSpecRow.laid) (((OpenSpec.ofChange Rows.fleetEventsMatchSpecSpec).at F).post enc Tryz.prog Tryz.f3 false true false false):=by
 obtain⟨places,hx⟩:=reads os enc
 refine returnsInHanded_of_row (C:=Tryz.checked) (s:=(OpenSpec.ofChange Rows.fleetEventsMatchSpecSpec)) own started (by kernel_rfl) Tryz.func3
  (witness_row_at (enc:=enc) (C:=Tryz.checked) false (laidWorld os) #[Value.agg #[.string ⟨#[]⟩,.string ⟨#[]⟩,.int .i64 0,.int .i64 0,.int .i64 0,.slice none 0 0],Value.agg #[.slice none 0 0,.slice none 0 0,.slice none 0 0]] rfl (by kernel_rfl) (by kernel_rfl) (by kernel_rfl)
   (OpenSpec.preRow_of_cond 8 hx (by kernel_rfl) (λk hk=>by cases hk) (by kernel_rfl) (laid_met os))) ?_
 intro W base args ds gs before hval hW _ _ _ hL _ _
 exact contract H enc W base args ds gs before hval hW hL

theorem said:Rows.FleetEventsMatchSpecSaid:=
 OpenClaim.holds_of_cond 3 Tryz.f3 rfl rfl rfl rfl rfl rfl rfl ⟨rfl,rfl,rfl,rfl,rfl⟩ rfl rfl rfl rfl rfl (by kernel_rfl) Tryz.func3 closedF
  (of_decide_eq_true (by kernel_rfl)) (by unfold Func.isWrapper;first |(rw [if_pos (by decide+kernel)];kernel_rfl)|(rw [if_neg (by decide+kernel)];exact⟨rfl,rfl⟩))
  (λos started H enc _ F=>by rw [OpenClaim.pre_eq_preRow];exact lifted os started H enc F)
theorem plainP (f:FuncId)(fn:Func)(hf:Tryz.pinned.checked.prog.funcNamed "orangebox/orangeboxlaw9.FleetEventsMatchSpec" =some f)(hfn:Tryz.pinned.checked.prog.funcs[f]? =some fn):
  false=Tryz.pinned.checked.prog.looks []/\ ∀(j:Nat) t,fn.params[j]? =some t->Tryz.pinned.checked.prog.wantsStandIn t=false:=by
 obtain rfl:f=3:=Option.some.inj ((show Tryz.prog.funcNamed "orangebox/orangeboxlaw9.FleetEventsMatchSpec" =some 3 by kernel_rfl).symm.trans hf)|>.symm
 obtain rfl:fn=Tryz.f3:=(Option.some.inj (Tryz.func3.symm.trans hfn)).symm
 refine⟨looksF,λj t ht=>?_⟩
 rw [Tryz.params3]at ht
 have hall:(#[24,29]:Array TypeId).toList.all (λt=> !Tryz.prog.wantsStandIn t)=true:=by kernel_rfl
 have q:=List.all_eq_true.1 hall t (Array.mem_toList_iff.2 (Array.mem_of_getElem? ht))
 have q2:Tryz.prog.wantsStandIn t=false:=by simpa using q
 exact q2
theorem card:Rows.FleetEventsMatchSpecCardSaid:=
 Claim7.holds_tied_plain_at .later [] _ _ _ _ said (λ_ h=>by cases h) (by kernel_rfl) (λ_ h=>by cases h) fleetEventsMatchSpec_row_tie rfl ⟨rfl,rfl⟩ (by kernel_rfl) rfl plainP goesF
end Go.Proofs.YtibkjjklfhfipabGreatDoor.fleetEventsMatchSpec
