/- The tied card over the second row: for every input that holds at most 1048576 values and letters the law's function returns true and each argument reads as it did. Condition: the package variables that the row lists hold what the program's text lays there. -/
import Derived.Test.YthfeackbhgmfbaaGreatDoorTie
import Derived.Test.YthfeackbhgmfbaaGreatDoorUV6
import Derived.Test.YthfeackbhgmfbaaGreatDoorTEb
import Derived.Test.YthfeackbhgmfbaaGreatDoorLay1
import Derived.Test.YthfeackbhgmfbaaGreatDoorOPb
import Derived.Test.YthfeackbhgmfbaaGreatDoorFPhases
namespace Go.Proofs.YthfeackbhgmfbaaGreatDoor.eventPhasesMatchSpec
open Go.ChangeShapes Go.WideShapes Go.ChangeAt Go.RowKit
open Go.OB Go.Lf
theorem one_le {H:Type}(d:DataW H):1<=Rows.uptoBulk d:=by
 cases d with
 |lit l=>cases l<;>simp [Rows.uptoBulk]
 |nil=>simp [Rows.uptoBulk]
 |ptr d=>simp [Rows.uptoBulk]
 |slice elems spare=>simp [Rows.uptoBulk]
 |agg parts=>simp [Rows.uptoBulk]
 |iface t d=>simp [Rows.uptoBulk]
 |map entries=>simp [Rows.uptoBulk]
 |held h=>simp [Rows.uptoBulk]
theorem aZx {H:Type}(l:List (DataW H)):Rows.uptoBulkAll l=(l.map Rows.uptoBulk).sum:=by
 induction l with
 |nil=>simp [Rows.uptoBulkAll]
 |cons x r ih=>simp only [Rows.uptoBulkAll,List.map_cons,List.sum_cons,ih]
theorem aLu {H:Type}:aPz (Rows.uptoBulk (H:=H)):=
 ⟨λs=>by simp [Rows.uptoBulk],one_le,λes sp=>by simp only [Rows.uptoBulk,aZx];omega,λps=>by simp only [Rows.uptoBulk,aZx];omega⟩
theorem laidOut:laidOutB Tryz.prog=true:=aOz
theorem own:ownKnob Tryz.prog.godebug=none:=by kernel_rfl
theorem o9 {H:Type}{enc:TypeId×Value->H}{w:World}{base:Nat}{sp:Nat->Bool}{held:Bool}:nV enc Tryz.prog w base sp held 9 Rp.str (λx=>okS x):=opens_str Tryz.underlying9
theorem o22 {H:Type}{enc:TypeId×Value->H}{w:World}{base:Nat}{sp:Nat->Bool}{held:Bool}:nV enc Tryz.prog w base sp held 22 (Rp.sl Rp.str) (λx=>okL (λx=>okS x) x):=aCc Tryz.underlying22 (by kernel_rfl) (by decide) o9
theorem o3 {H:Type}{enc:TypeId×Value->H}{w:World}{base:Nat}{sp:Nat->Bool}{held:Bool}:nV enc Tryz.prog w base sp held 3 (Rp.int .i64) (λx=>i64 x):=opens_i64 Tryz.underlying3
theorem o84 {H:Type}{enc:TypeId×Value->H}{w:World}{base:Nat}{sp:Nat->Bool}{held:Bool}:nV enc Tryz.prog w base sp held 84 dC (λx=>aLn x):=opens_of λM=>by
 induction M with
 |zero=>intro fuel cs x hf h;exact absurd hf (Nat.not_lt_zero _)
 |succ M ih=>
  intro fuel cs x hf h
  have hl:=tY (i:=0) (ft:=3) (off:=0) (by kernel_rfl) h
  obtain⟨a0,q0,k0⟩:=aC (i:=0) (ft:=3) (off:=0) (s:=1) o3 (by kernel_rfl) (by kernel_rfl) h
  obtain⟨a1,q1,k1⟩:=aC (i:=1) (ft:=9) (off:=1) (s:=1) o9 (by kernel_rfl) (by kernel_rfl) h
  obtain⟨a2,q2,k2⟩:=aC (i:=2) (ft:=9) (off:=2) (s:=1) o9 (by kernel_rfl) (by kernel_rfl) h
  obtain⟨a3,q3,k3⟩:=aC (i:=3) (ft:=3) (off:=3) (s:=1) o3 (by kernel_rfl) (by kernel_rfl) h
  obtain⟨a4,q4,k4⟩:=aC (i:=4) (ft:=3) (off:=4) (s:=1) o3 (by kernel_rfl) (by kernel_rfl) h
  obtain⟨a5,q5,k5⟩:=aC (i:=5) (ft:=3) (off:=5) (s:=1) o3 (by kernel_rfl) (by kernel_rfl) h
  obtain⟨a6,q6,k6⟩:=part_rdB (i:=6) (ft:=82) (off:=6) (s:=1) (opB_sl Tryz.underlying82 (by kernel_rfl) (by decide) ih) (by kernel_rfl) (by kernel_rfl) (Nat.le_of_lt hf) h
  obtain⟨v6,e6,s6⟩:=q6
  obtain⟨n6,s6⟩:=bBp aHo s6
  have q6:(Rp.sl (wS n6)).rd All w ((cs.drop 6).take 1) a6:=⟨v6,e6,s6⟩
  have q:=(kV q0 (kV q1 (kV q2 (kV q3 (kV q4 (kV q5 q6 rfl) rfl) rfl) rfl) rfl) rfl)
  rw [List.drop_zero,List.take_of_length_le (by rw [hl];exact Nat.le_of_eq (by kernel_rfl))]at q
  exact⟨Cond.mk a0 a1 a2 a3 a4 a5 a6,⟨n6+1,q⟩,okCond_mk k0 k1 k2 k3 k4 k5 k6⟩
theorem o106 {H:Type}{enc:TypeId×Value->H}{w:World}{base:Nat}{sp:Nat->Bool}{held:Bool}:nV enc Tryz.prog w base sp held 106 fZ (λx=>aPw x):=by
 intro fuel cs x h
 have hl:=tY (i:=0) (ft:=9) (off:=0) (by kernel_rfl) h
 obtain⟨a0,q0,k0⟩:=aC (i:=0) (ft:=9) (off:=0) (s:=1) o9 (by kernel_rfl) (by kernel_rfl) h
 obtain⟨a1,q1,k1⟩:=aC (i:=1) (ft:=9) (off:=1) (s:=1) o9 (by kernel_rfl) (by kernel_rfl) h
 obtain⟨a2,q2,k2⟩:=aC (i:=2) (ft:=84) (off:=2) (s:=7) o84 (by kernel_rfl) (by kernel_rfl) h
 have q:=(kV q0 (kV q1 q2 rfl) rfl)
 rw [List.drop_zero,List.take_of_length_le (by rw [hl];exact Nat.le_of_eq (by kernel_rfl))]at q
 exact⟨dE.mk a0 a1 a2,q,k0,k1,k2⟩
theorem o23 {H:Type}{enc:TypeId×Value->H}{w:World}{base:Nat}{sp:Nat->Bool}{held:Bool}:nV enc Tryz.prog w base sp held 23 (Rp.sl fZ) (λx=>okL (λx=>aPw x) x):=aCc Tryz.underlying23 (by kernel_rfl) (by decide) o106
theorem o110 {H:Type}{enc:TypeId×Value->H}{w:World}{base:Nat}{sp:Nat->Bool}{held:Bool}:nV enc Tryz.prog w base sp held 110 dA (λx=>aXz x):=by
 intro fuel cs x h
 have hl:=tY (i:=0) (ft:=9) (off:=0) (by kernel_rfl) h
 obtain⟨a0,q0,k0⟩:=aC (i:=0) (ft:=9) (off:=0) (s:=1) o9 (by kernel_rfl) (by kernel_rfl) h
 obtain⟨a1,q1,k1⟩:=aC (i:=1) (ft:=84) (off:=1) (s:=7) o84 (by kernel_rfl) (by kernel_rfl) h
 have q:=(kV q0 q1 rfl)
 rw [List.drop_zero,List.take_of_length_le (by rw [hl];exact Nat.le_of_eq (by kernel_rfl))]at q
 exact⟨Rule.mk a0 a1,q,k0,k1⟩
theorem o24 {H:Type}{enc:TypeId×Value->H}{w:World}{base:Nat}{sp:Nat->Bool}{held:Bool}:nV enc Tryz.prog w base sp held 24 (Rp.sl dA) (λx=>okL (λx=>aXz x) x):=aCc Tryz.underlying24 (by kernel_rfl) (by decide) o110
theorem o26 {H:Type}{enc:TypeId×Value->H}{w:World}{base:Nat}{sp:Nat->Bool}{held:Bool}:nV enc Tryz.prog w base sp held 26 aSd (λx=>aPx x):=by
 intro fuel cs x h
 have hl:=tY (i:=0) (ft:=22) (off:=0) (by kernel_rfl) h
 obtain⟨a0,q0,k0⟩:=aC (i:=0) (ft:=22) (off:=0) (s:=1) o22 (by kernel_rfl) (by kernel_rfl) h
 obtain⟨a1,q1,k1⟩:=aC (i:=1) (ft:=23) (off:=1) (s:=1) o23 (by kernel_rfl) (by kernel_rfl) h
 obtain⟨a2,q2,k2⟩:=aC (i:=2) (ft:=24) (off:=2) (s:=1) o24 (by kernel_rfl) (by kernel_rfl) h
 have q:=(kV q0 (kV q1 q2 rfl) rfl)
 rw [List.drop_zero,List.take_of_length_le (by rw [hl];exact Nat.le_of_eq (by kernel_rfl))]at q
 exact⟨Rules.mk a0 a1 a2,q,k0,k1,k2⟩
theorem o142 {H:Type}{enc:TypeId×Value->H}{w:World}{base:Nat}{sp:Nat->Bool}{held:Bool}:nV enc Tryz.prog w base sp held 142 aT (λx=>aKl x):=by
 intro fuel cs x h
 have hl:=tY (i:=0) (ft:=3) (off:=0) (by kernel_rfl) h
 obtain⟨a0,q0,k0⟩:=aC (i:=0) (ft:=3) (off:=0) (s:=1) o3 (by kernel_rfl) (by kernel_rfl) h
 obtain⟨a1,q1,k1⟩:=aC (i:=1) (ft:=3) (off:=1) (s:=1) o3 (by kernel_rfl) (by kernel_rfl) h
 obtain⟨a2,q2,k2⟩:=aC (i:=2) (ft:=3) (off:=2) (s:=1) o3 (by kernel_rfl) (by kernel_rfl) h
 have q:=(kV q0 (kV q1 q2 rfl) rfl)
 rw [List.drop_zero,List.take_of_length_le (by rw [hl];exact Nat.le_of_eq (by kernel_rfl))]at q
 exact⟨eU.mk a0 a1 a2,q,k0,k1,k2⟩
theorem o115 {H:Type}{enc:TypeId×Value->H}{w:World}{base:Nat}{sp:Nat->Bool}{held:Bool}:nV enc Tryz.prog w base sp held 115 (Rp.sl aT) (λx=>okL (λx=>aKl x) x):=aCc Tryz.underlying115 (by kernel_rfl) (by decide) o142
theorem o117 {H:Type}{enc:TypeId×Value->H}{w:World}{base:Nat}{sp:Nat->Bool}{held:Bool}:nV enc Tryz.prog w base sp held 117 aZw (λx=>aVs x):=by
 intro fuel cs x h
 have hl:=tY (i:=0) (ft:=3) (off:=0) (by kernel_rfl) h
 obtain⟨a0,q0,k0⟩:=aC (i:=0) (ft:=3) (off:=0) (s:=1) o3 (by kernel_rfl) (by kernel_rfl) h
 obtain⟨a1,q1,k1⟩:=aC (i:=1) (ft:=115) (off:=1) (s:=1) o115 (by kernel_rfl) (by kernel_rfl) h
 have q:=(kV q0 q1 rfl)
 rw [List.drop_zero,List.take_of_length_le (by rw [hl];exact Nat.le_of_eq (by kernel_rfl))]at q
 exact⟨Series.mk a0 a1,q,k0,k1⟩
theorem o119 {H:Type}{enc:TypeId×Value->H}{w:World}{base:Nat}{sp:Nat->Bool}{held:Bool}:nV enc Tryz.prog w base sp held 119 aGv (λx=>pI x):=by
 intro fuel cs x h
 have hl:=tY (i:=0) (ft:=9) (off:=0) (by kernel_rfl) h
 obtain⟨a0,q0,k0⟩:=aC (i:=0) (ft:=9) (off:=0) (s:=1) o9 (by kernel_rfl) (by kernel_rfl) h
 obtain⟨a1,q1,k1⟩:=aC (i:=1) (ft:=117) (off:=1) (s:=2) o117 (by kernel_rfl) (by kernel_rfl) h
 obtain⟨a2,q2,k2⟩:=aC (i:=2) (ft:=3) (off:=3) (s:=1) o3 (by kernel_rfl) (by kernel_rfl) h
 have q:=(kV q0 (kV q1 q2 rfl) rfl)
 rw [List.drop_zero,List.take_of_length_le (by rw [hl];exact Nat.le_of_eq (by kernel_rfl))]at q
 exact⟨gZ.mk a0 a1 a2,q,k0,k1,k2⟩
theorem o27 {H:Type}{enc:TypeId×Value->H}{w:World}{base:Nat}{sp:Nat->Bool}{held:Bool}:nV enc Tryz.prog w base sp held 27 (Rp.sl aGv) (λx=>okL (λx=>pI x) x):=aCc Tryz.underlying27 (by kernel_rfl) (by decide) o119
theorem gTab1:Tryz.prog.globalNamed "internal/strconv.uint64pow10" =some 1:=by kernel_rfl
theorem gTabType1:(Tryz.prog.globals[1]?).map (·.type)=some 244:=by kernel_rfl
theorem gc244:Tryz.prog.cellsOf 244=20:=by kernel_rfl
theorem gce244:Tryz.prog.cellsOf 151=1:=by kernel_rfl
theorem gf1:Rows.eventPhasesMatchSpecUptoRow.laid.filter (λx=>x.1== "internal/strconv.uint64pow10")=[("internal/strconv.uint64pow10",Lib.tabData .u64 [1,10,100,1000,10000,100000,1000000,10000000,100000000,1000000000,10000000000,100000000000,1000000000000,10000000000000,100000000000000,1000000000000000,10000000000000000,100000000000000000,1000000000000000000,10000000000000000000])]:=by kernel_rfl
theorem table1 {W:World}(h:laidMetH Tryz.prog Rows.eventPhasesMatchSpecUptoRow.laid W):Lib.TabIs Tryz.prog W "internal/strconv.uint64pow10" .u64 [1,10,100,1000,10000,100000,1000000,10000000,100000000,1000000000,10000000000,100000000000,1000000000000,10000000000000,100000000000000,1000000000000000,10000000000000000,100000000000000000,1000000000000000000,10000000000000000000]:=by
 have q:=h.filter (λx=>x.1== "internal/strconv.uint64pow10")
 rw [gf1]at q
 exact Lib.tabIs_of_head (rest:=[]) gTab1 gTabType1 Tryz.underlying244 Tryz.underlying151 gce244 gc244 q
theorem tabItem1 {W:World}(h:laidMetH Tryz.prog Rows.eventPhasesMatchSpecUptoRow.laid W):(Fz.at 1 0 ((Fl.arr 20 (Fl.int .u64)).f zX)).p (frees [] []) W:=by
 have q:=table1 h
 have c:Cells W ⟨1,0,none⟩ ((Fl.arr 20 (Fl.int .u64)).f zX):=by
  intro i v hv
  rw [Addr.add_none,Nat.zero_add]
  have hi:i<20:=by
   have h1:=(List.getElem?_eq_some_iff.1 hv).1
   exact h1
  have c:=q.cell gTab1 i hi
  have e:v= .int .u64 (([1,10,100,1000,10000,100000,1000000,10000000,100000000,1000000000,10000000000,100000000000,1000000000000,10000000000000,100000000000000,1000000000000000,10000000000000000,100000000000000000,1000000000000000000,10000000000000000000]:List Int).getD i 0):=by
   match i,hi,hv with
   |0,_,hv=>exact(Option.some.inj hv).symm
   |1,_,hv=>exact(Option.some.inj hv).symm
   |2,_,hv=>exact(Option.some.inj hv).symm
   |3,_,hv=>exact(Option.some.inj hv).symm
   |4,_,hv=>exact(Option.some.inj hv).symm
   |5,_,hv=>exact(Option.some.inj hv).symm
   |6,_,hv=>exact(Option.some.inj hv).symm
   |7,_,hv=>exact(Option.some.inj hv).symm
   |8,_,hv=>exact(Option.some.inj hv).symm
   |9,_,hv=>exact(Option.some.inj hv).symm
   |10,_,hv=>exact(Option.some.inj hv).symm
   |11,_,hv=>exact(Option.some.inj hv).symm
   |12,_,hv=>exact(Option.some.inj hv).symm
   |13,_,hv=>exact(Option.some.inj hv).symm
   |14,_,hv=>exact(Option.some.inj hv).symm
   |15,_,hv=>exact(Option.some.inj hv).symm
   |16,_,hv=>exact(Option.some.inj hv).symm
   |17,_,hv=>exact(Option.some.inj hv).symm
   |18,_,hv=>exact(Option.some.inj hv).symm
   |19,_,hv=>exact(Option.some.inj hv).symm
  rw [e];exact c
 refine⟨by simp [frees,bks],?_,c⟩
 exact World.block_lt_of_cell? _ _ (q.cell gTab1 0 (by decide))
theorem gTab0:Tryz.prog.globalNamed "orangebox/event.opSigns" =some 0:=by kernel_rfl
theorem gTabType0:(Tryz.prog.globals[0]?).map (·.type)=some 162:=by kernel_rfl
theorem gc162:Tryz.prog.cellsOf 162=7:=by kernel_rfl
theorem gce162:Tryz.prog.cellsOf 9=1:=by kernel_rfl
theorem gf0:Rows.eventPhasesMatchSpecUptoRow.laid.filter (λx=>x.1== "orangebox/event.opSigns")=[("orangebox/event.opSigns",aIn [[],[60],[60,61],[61],[33,61],[62,61],[62]])]:=by kernel_rfl
theorem strItem0 {W:World}(h:laidMetH Tryz.prog Rows.eventPhasesMatchSpecUptoRow.laid W):(Fz.at 0 0 ((Fl.arr 7 Fl.str).f yG)).p (frees [] []) W:=by
 have q:=h.filter (λx=>x.1== "orangebox/event.opSigns")
 rw [gf0]at q
 have q:=aSg gTab0 gTabType0 Tryz.underlying162 Tryz.underlying9 gce162 gc162 q
 have c:Cells W ⟨0,0,none⟩ ((Fl.arr 7 Fl.str).f yG):=by
  intro i v hv
  rw [Addr.add_none,Nat.zero_add]
  have hi:i<7:=by
   have h1:=(List.getElem?_eq_some_iff.1 hv).1
   exact h1
  match i,hi,hv with
  |0,_,hv=>rw [q 0 _ rfl];exact hv
  |1,_,hv=>rw [q 1 _ rfl];exact hv
  |2,_,hv=>rw [q 2 _ rfl];exact hv
  |3,_,hv=>rw [q 3 _ rfl];exact hv
  |4,_,hv=>rw [q 4 _ rfl];exact hv
  |5,_,hv=>rw [q 5 _ rfl];exact hv
  |6,_,hv=>rw [q 6 _ rfl];exact hv
 refine⟨by simp [frees,bks],?_,c⟩
 exact World.block_lt_of_cell? _ _ (q 0 _ rfl)
theorem gTab5:Tryz.prog.globalNamed "strconv.ErrSyntax" =some 5:=by kernel_rfl
theorem gTabType5:(Tryz.prog.globals[5]?).map (·.type)=some 102:=by kernel_rfl
theorem gf5:Rows.eventPhasesMatchSpecUptoRow.laid.filter (λx=>x.1== "strconv.ErrSyntax")=[("strconv.ErrSyntax",Rows.laid_strconv_ErrSyntax)]:=by kernel_rfl
theorem giItem5 {W:World}(h:laidMetH Tryz.prog Rows.eventPhasesMatchSpecUptoRow.laid W):(Fz.gi 5).p (frees [] []) W:=by
 have q:=h.filter (λx=>x.1== "strconv.ErrSyntax")
 rw [gf5]at q
 obtain⟨T,v,c⟩:=aNi gTab5 gTabType5 Tryz.underlying102 q
 refine⟨by simp [frees,bks],World.block_lt_of_cell? _ _ c,_,?_,.inr ⟨T,v,rfl⟩⟩
 intro i x hx
 match i,hx with
 |0,hx=>rw [<-hx];exact c
theorem oB26 {H:Type}{enc:TypeId×Value->H}{w:World}{base:Nat}{sp:Nat->Bool}{held:Bool}:aHl enc Tryz.prog w base sp held Rows.uptoBulk 26 aSd (λx=>aPx x) (λx=>1+(1+x.Rules.length)):=by
 intro fuel cs x h
 have hl:=tY (i:=0) (ft:=22) (off:=0) (by kernel_rfl) h
 have hs:=parts_le aLu x.1
 obtain⟨a0,q0,k0,s0⟩:=partB (i:=0) (j:=1) (ft:=22) (off:=0) (s:=1) rfl (aHe aLu o22) (by kernel_rfl) (by kernel_rfl) h
 obtain⟨a1,q1,k1,s1⟩:=partB (i:=1) (j:=2) (ft:=23) (off:=1) (s:=1) rfl (aHe aLu o23) (by kernel_rfl) (by kernel_rfl) h
 obtain⟨a2,q2,k2,s2⟩:=partB (i:=2) (j:=3) (ft:=24) (off:=2) (s:=1) rfl (opensB_sl aLu Tryz.underlying24 (by kernel_rfl) (by decide) (aHe aLu o110)) (by kernel_rfl) (by kernel_rfl) h
 have q:=(kV q0 (kV q1 q2 rfl) rfl)
 rw [List.drop_zero,List.take_of_length_le (by rw [hl];exact Nat.le_of_eq (by kernel_rfl))]at q
 rw [bAg]at s2
 exact⟨Rules.mk a0 a1 a2,q,⟨k0,k1,k2⟩,by dsimp only at *;omega⟩
set_option maxHeartbeats 2000000 in
set_option maxRecDepth 100000 in
theorem contract (H:Type) (enc:TypeId×Value->H) (W:World) (base:Nat) (args:Array Value) (ds gs:List (DataW H)) (before:List MemPlace)
  (hval: ∀(j:Nat) t v,Tryz.f3.params[j]? =some t->args[j]? =some v->Value.okWide Tryz.prog W .any base t v)
  (hW:DataW.Whole enc Tryz.prog Tryz.f3.params.toList Rows.eventPhasesMatchSpecSpec.vars false W args.toList ds gs before) (hL:laidMetH Tryz.prog Rows.eventPhasesMatchSpecUptoRow.laid W) (hk:Rows.uptoSmall H (ds++gs)=true):
  Calls Tryz.prog 3 args W λe W'=> ∃v,e= .returned v/\Rows.eventPhasesMatchSpecSpec.post enc Tryz.prog Tryz.f3 false true false false W args v W':=by
 have hW':=hW
 obtain⟨p,q,hA0,hV,rfl,hfz,hnd⟩:=hW
 have hA:DataW.TrodAll enc Tryz.prog W 0 (λ_=>true) true Tryz.f3.params.toList args.toList ds p:=hA0
 rw [Tryz.params3]at hA hval
 obtain⟨v0,vs0,d0,ds0,p0,q0,hargs,rfl,rfl,h0,r0⟩:=trodAll_cons hA
 obtain⟨v1,vs1,d1,ds1,p1,q1,rfl,rfl,rfl,h1,r1⟩:=trodAll_cons r0
 obtain⟨v2,vs2,d2,ds2,p2,q2,rfl,rfl,rfl,h2,r2⟩:=trodAll_cons r1
 obtain⟨v3,vs3,d3,ds3,p3,q3,rfl,rfl,rfl,h3,r3⟩:=trodAll_cons r2
 obtain⟨rfl,rfl,rfl⟩:=trodAll_nil r3
 obtain rfl:args= #[v0,v1,v2,v3]:=by cases args;simp_all
 obtain⟨rfl,rfl⟩:=trodVars_none hV
 have k0:=h0
 have lt0: ∀x∈p0,x.block<W.heap.size:=by obtain⟨m,hm⟩:=k0;exact DataW.trod_lt m _ _ _ hm
 obtain⟨fu0,hf0⟩:=h0
 obtain⟨x0,y0,z0,b0⟩:=oB26 fu0 _ _ hf0
 obtain⟨cs0,rfl⟩:=aYh (t:=26) (by kernel_rfl) (hval 0 26 v0 rfl rfl)
 obtain⟨u0_873,u0_874,u0_875,e0,s0_0,s0_1,s0_2⟩:=aTa y0
 obtain rfl:cs0=[u0_873,u0_874,u0_875].toArray:=by apply Array.ext';exact e0
 have k1:=h1
 have lt1: ∀x∈p1,x.block<W.heap.size:=by obtain⟨m,hm⟩:=k1;exact DataW.trod_lt m _ _ _ hm
 obtain⟨fu1,hf1⟩:=h1
 obtain⟨x1,y1,z1⟩:=o27 fu1 _ _ hf1
 obtain⟨a1,n1,c1,rfl⟩:=okWide_slice Tryz.underlying27 (hval 1 27 v1 rfl rfl)
 obtain⟨u1,e1,s1_0⟩:=y1
 obtain rfl:Value.slice a1 n1 c1=u1:=by have y:[Value.slice a1 n1 c1]=[u1]:=e1;simpa using y
 have k2:=h2
 have lt2: ∀x∈p2,x.block<W.heap.size:=by obtain⟨m,hm⟩:=k2;exact DataW.trod_lt m _ _ _ hm
 obtain⟨fu2,hf2⟩:=h2
 obtain⟨x2,y2,z2⟩:=o3 fu2 _ _ hf2
 obtain⟨a2,rfl⟩:=okWide_int Tryz.underlying3 (hval 2 3 v2 rfl rfl)
 obtain rfl:x2=a2:=by have y:[Value.int .i64 a2]=[Value.int .i64 x2]:=y2;simpa using y.symm
 have k3:=h3
 have lt3: ∀x∈p3,x.block<W.heap.size:=by obtain⟨m,hm⟩:=k3;exact DataW.trod_lt m _ _ _ hm
 obtain⟨fu3,hf3⟩:=h3
 obtain⟨x3,y3,z3⟩:=o3 fu3 _ _ hf3
 obtain⟨a3,rfl⟩:=okWide_int Tryz.underlying3 (hval 3 3 v3 rfl rfl)
 obtain rfl:x3=a3:=by have y:[Value.int .i64 a3]=[Value.int .i64 x3]:=y3;simpa using y.symm
 have hb:Rows.uptoBulkAll ([d0,d1,d2,d3]:List (DataW H))<=1048576:=by
  have h:Rows.uptoBulkAll ([d0,d1,d2,d3]++[])<=1048576:=of_decide_eq_true hk
  rwa [List.append_nil]at h
 simp only [Rows.uptoBulkAll]at hb
 clear hA0
 have HH:=(Hd.fresh0 W).fzs [.sl Rp.str u0_873 x0.Phases,.sl fZ u0_874 x0.Moves,.sl dA u0_875 x0.Rules,.sl aGv (.slice a1 n1 c1) x1,.at 0 0 ((Fl.arr 7 Fl.str).f yG),.at 1 0 ((Fl.arr 20 (Fl.int .u64)).f zX),.gi 5] ⟨aIz s0_0,aIz s0_1,aIz s0_2,aIz s1_0,strItem0 hL,tabItem1 hL,giItem5 hL,trivial⟩
 refine(L.Ffqw x0 x1 x2 x3 u0_873 u0_874 u0_875 (.slice a1 n1 c1) true (aXm x0 x1 x2 x3 z0 z1 z2 z3 (by dsimp only at b0;omega)) HH).mono λe W' ⟨he,G⟩=>?_
 subst he
 have bel:Below W.heap.size W W':=G.only.below
 exact⟨_,rfl,_,_,_,[],_,[],hW',trodAll_mk1 (shut_bool Tryz.underlying4 _),(trodAll_cons_mk (Below.trod laidOut (by kernel_rfl) (of_decide_eq_true (by kernel_rfl)) k0 bel lt0) (trodAll_cons_mk (Below.trod laidOut (by kernel_rfl) (of_decide_eq_true (by kernel_rfl)) k1 bel lt1) (trodAll_cons_mk (Below.trod laidOut (by kernel_rfl) (of_decide_eq_true (by kernel_rfl)) k2 bel lt2) (trodAll_cons_mk (Below.trod laidOut (by kernel_rfl) (of_decide_eq_true (by kernel_rfl)) k3 bel lt3) trodAll_mk0)))),rfl,bel.frame _,λh=>by cases h⟩

noncomputable def laidWorld (os:Os):World:=
 {World.holding Tryz.prog os ⟨#[.cells #[.string ⟨#[118,97,108,117,101,32,111,117,116,32,111,102,32,114,97,110,103,101]⟩] 304 (0,0),.cells #[.string ⟨#[105,110,118,97,108,105,100,32,115,121,110,116,97,120]⟩] 304 (0,0)],#[],[]⟩with heap:=(((((((World.holding Tryz.prog os ⟨#[.cells #[.string ⟨#[118,97,108,117,101,32,111,117,116,32,111,102,32,114,97,110,103,101]⟩] 304 (0,0),.cells #[.string ⟨#[105,110,118,97,108,105,100,32,115,121,110,116,97,120]⟩] 304 (0,0)],#[],[]⟩).heap.modify 3 λ
   | .cells _ t frozen=> .cells #[.int .u8 0,.int .u8 1,.int .u8 28,.int .u8 2,.int .u8 29,.int .u8 14,.int .u8 24,.int .u8 3,.int .u8 30,.int .u8 22,.int .u8 20,.int .u8 15,.int .u8 25,.int .u8 17,.int .u8 4,.int .u8 8,.int .u8 31,.int .u8 27,.int .u8 13,.int .u8 23,.int .u8 21,.int .u8 19,.int .u8 16,.int .u8 7,.int .u8 26,.int .u8 12,.int .u8 18,.int .u8 6,.int .u8 11,.int .u8 5,.int .u8 10,.int .u8 9] t frozen
   |o=>o).modify 4 λ
   | .cells _ t frozen=> .cells #[.int .u8 0,.int .u8 1,.int .u8 56,.int .u8 2,.int .u8 57,.int .u8 49,.int .u8 28,.int .u8 3,.int .u8 61,.int .u8 58,.int .u8 42,.int .u8 50,.int .u8 38,.int .u8 29,.int .u8 17,.int .u8 4,.int .u8 62,.int .u8 47,.int .u8 59,.int .u8 36,.int .u8 45,.int .u8 43,.int .u8 51,.int .u8 22,.int .u8 53,.int .u8 39,.int .u8 33,.int .u8 30,.int .u8 24,.int .u8 18,.int .u8 12,.int .u8 5,.int .u8 63,.int .u8 55,.int .u8 48,.int .u8 27,.int .u8 60,.int .u8 41,.int .u8 37,.int .u8 16,.int .u8 46,.int .u8 35,.int .u8 44,.int .u8 21,.int .u8 52,.int .u8 32,.int .u8 23,.int .u8 11,.int .u8 54,.int .u8 26,.int .u8 40,.int .u8 15,.int .u8 34,.int .u8 20,.int .u8 31,.int .u8 10,.int .u8 25,.int .u8 14,.int .u8 19,.int .u8 9,.int .u8 13,.int .u8 8,.int .u8 7,.int .u8 6] t frozen
   |o=>o).modify 1 λ
   | .cells _ t frozen=> .cells #[.int .u64 1,.int .u64 10,.int .u64 100,.int .u64 1000,.int .u64 10000,.int .u64 100000,.int .u64 1000000,.int .u64 10000000,.int .u64 100000000,.int .u64 1000000000,.int .u64 10000000000,.int .u64 100000000000,.int .u64 1000000000000,.int .u64 10000000000000,.int .u64 100000000000000,.int .u64 1000000000000000,.int .u64 10000000000000000,.int .u64 100000000000000000,.int .u64 1000000000000000000,.int .u64 10000000000000000000] t frozen
   |o=>o).modify 6 λ
   | .cells _ t frozen=> .cells #[.iface 302 (.pointer (some ⟨12,0,none⟩))] t frozen
   |o=>o).modify 5 λ
   | .cells _ t frozen=> .cells #[.iface 302 (.pointer (some ⟨13,0,none⟩))] t frozen
   |o=>o).modify 0 λ
   | .cells _ t frozen=> .cells #[.string ⟨#[]⟩,.string ⟨#[60]⟩,.string ⟨#[60,61]⟩,.string ⟨#[61]⟩,.string ⟨#[33,61]⟩,.string ⟨#[62,61]⟩,.string ⟨#[62]⟩] t frozen
   |o=>o)}
theorem laid_met (os:Os):laidMet Tryz.prog Rows.eventPhasesMatchSpecUptoRow.laid ((laidWorld os).forCall (λ_ _=>0) ⟨#[],#[Value.agg #[.slice none 0 0,.slice none 0 0,.slice none 0 0],.slice none 0 0,.int .i64 0,.int .i64 0],[]⟩).memory:=
 laidMet_of_run' 8 (by kernel_rfl) (by kernel_rfl)
theorem reads (os:Os){H:Type}(enc:TypeId×Value->H): ∃places,DataW.whole enc Tryz.prog ((laidWorld os).forCall (λ_ _=>0) ⟨#[],#[Value.agg #[.slice none 0 0,.slice none 0 0,.slice none 0 0],.slice none 0 0,.int .i64 0,.int .i64 0],[]⟩).memory Tryz.f3.params.toList Rows.eventPhasesMatchSpecSpec.vars false #[(Value.agg #[.slice none 0 0,.slice none 0 0,.slice none 0 0]:Value),.slice none 0 0,.int .i64 0,.int .i64 0].toList 8=some ([.agg [.nil,.nil,.nil],.nil,.lit (.int .i64 0),.lit (.int .i64 0)],[],places):=
 ⟨[],by kernel_rfl⟩

set_option maxRecDepth 100000 in
theorem lifted (os:Os)(started:os.Started)(H:Type)(enc:TypeId×Value->H)(F:Stop.Interp):
  ReturnsInHanded {} Tryz.checked os 3 .any ((Rows.OpenSpec.upto Rows.eventPhasesMatchSpecSpec).preRow enc Tryz.prog Tryz.f3 Rows.eventPhasesMatchSpecUptoRow.domain false Rows.eventPhasesMatchSpecUptoRow.laid) (((Rows.OpenSpec.upto Rows.eventPhasesMatchSpecSpec).at F).post enc Tryz.prog Tryz.f3 false true false false):=by
 obtain⟨places,hx⟩:=reads os enc
 refine returnsInHanded_of_row (C:=Tryz.checked) (s:=(Rows.OpenSpec.upto Rows.eventPhasesMatchSpecSpec)) own started (by kernel_rfl) Tryz.func3
  (witness_row_at (enc:=enc) (C:=Tryz.checked) false (laidWorld os) #[Value.agg #[.slice none 0 0,.slice none 0 0,.slice none 0 0],.slice none 0 0,.int .i64 0,.int .i64 0] rfl (by kernel_rfl) (by kernel_rfl) (by kernel_rfl)
   (OpenSpec.preRow_of_cond 8 hx (by kernel_rfl) (λk hk=>by cases hk;kernel_rfl) (by kernel_rfl) (laid_met os))) ?_
 intro W base args ds gs before hval hW _ hcond _ hL _ _
 exact contract H enc W base args ds gs before hval hW hL (hcond _ rfl)

theorem said:Rows.EventPhasesMatchSpecUptoSaid:=
 OpenClaim.holds_of_cond 3 Tryz.f3 rfl rfl rfl rfl rfl rfl rfl ⟨rfl,rfl,rfl,rfl,rfl⟩ rfl rfl rfl rfl rfl (by kernel_rfl) Tryz.func3 closedF
  (of_decide_eq_true (by kernel_rfl)) (by unfold Func.isWrapper;first |(rw [if_pos (by decide+kernel)];kernel_rfl)|(rw [if_neg (by decide+kernel)];exact⟨rfl,rfl⟩))
  (λos started H enc _ F=>by rw [OpenClaim.pre_eq_preRow];exact lifted os started H enc F)
theorem plainP (f:FuncId)(fn:Func)(hf:Tryz.pinned.checked.prog.funcNamed "orangebox/orangeboxlaw6.EventPhasesMatchSpec" =some f)(hfn:Tryz.pinned.checked.prog.funcs[f]? =some fn):
  true=Tryz.pinned.checked.prog.looks []/\ ∀(j:Nat) t,fn.params[j]? =some t->Tryz.pinned.checked.prog.wantsStandIn t=false:=by
 obtain rfl:f=3:=Option.some.inj ((show Tryz.prog.funcNamed "orangebox/orangeboxlaw6.EventPhasesMatchSpec" =some 3 by kernel_rfl).symm.trans hf)|>.symm
 obtain rfl:fn=Tryz.f3:=(Option.some.inj (Tryz.func3.symm.trans hfn)).symm
 refine⟨looksF,λj t ht=>?_⟩
 rw [Tryz.params3]at ht
 have hall:(#[26,27,3,3]:Array TypeId).toList.all (λt=> !Tryz.prog.wantsStandIn t)=true:=by kernel_rfl
 have q:=List.all_eq_true.1 hall t (Array.mem_toList_iff.2 (Array.mem_of_getElem? ht))
 have q2:Tryz.prog.wantsStandIn t=false:=by simpa using q
 exact q2
theorem card:Rows.EventPhasesMatchSpecUptoCardSaid:=
 Claim7.holds_tied_plain_at .later [] _ _ _ _ said (λ_ h=>by cases h) (by kernel_rfl) (λ_ h=>by cases h) eventPhasesMatchSpecUpto_row_tie rfl ⟨rfl,rfl⟩ (by kernel_rfl) rfl plainP goesF
end Go.Proofs.YthfeackbhgmfbaaGreatDoor.eventPhasesMatchSpec
