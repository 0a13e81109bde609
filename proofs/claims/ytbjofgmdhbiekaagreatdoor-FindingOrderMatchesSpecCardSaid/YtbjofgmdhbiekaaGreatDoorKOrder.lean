/- The tied card: for every input the law's function returns true and each argument reads as it did. Condition: the package variables that the row lists hold what the program's text lays there. -/
import Derived.Test.YtbjofgmdhbiekaaGreatDoorTie
import Derived.Test.YtbjofgmdhbiekaaGreatDoorUV6
import Derived.Test.YtbjofgmdhbiekaaGreatDoorSOb
import Derived.Test.YtbjofgmdhbiekaaGreatDoorOPb
import Derived.Test.YtbjofgmdhbiekaaGreatDoorLay1
import Derived.Test.YtbjofgmdhbiekaaGreatDoorFOrder
namespace Go.Proofs.YtbjofgmdhbiekaaGreatDoor.findingOrderMatchesSpec
open Go.ChangeShapes Go.WideShapes Go.ChangeAt Go.RowKit
open Go.OB Go.Lf
theorem laidOut:laidOutB Tryz.prog=true:=aNl
theorem own:ownKnob Tryz.prog.godebug=none:=by kernel_rfl
theorem o3 {H:Type}{enc:TypeId×Value->H}{w:World}{base:Nat}{sp:Nat->Bool}{held:Bool}:bV enc Tryz.prog w base sp held 3 (Rp.int .i64) (λx=>i64 x):=opens_i64 Tryz.underlying3
theorem o9 {H:Type}{enc:TypeId×Value->H}{w:World}{base:Nat}{sp:Nat->Bool}{held:Bool}:bV enc Tryz.prog w base sp held 9 Rp.str (λx=>okS x):=opens_str Tryz.underlying9
theorem o251 {H:Type}{enc:TypeId×Value->H}{w:World}{base:Nat}{sp:Nat->Bool}{held:Bool}:bV enc Tryz.prog w base sp held 251 jD (λx=>aTi x):=by
 intro fuel cs x h
 have hl:=nD (i:=0) (ft:=3) (off:=0) (by kernel_rfl) h
 obtain⟨a0,q0,k0⟩:=xP (i:=0) (ft:=3) (off:=0) (s:=1) o3 (by kernel_rfl) (by kernel_rfl) h
 obtain⟨a1,q1,k1⟩:=xP (i:=1) (ft:=3) (off:=1) (s:=1) o3 (by kernel_rfl) (by kernel_rfl) h
 obtain⟨a2,q2,k2⟩:=xP (i:=2) (ft:=3) (off:=2) (s:=1) o3 (by kernel_rfl) (by kernel_rfl) h
 obtain⟨a3,q3,k3⟩:=xP (i:=3) (ft:=3) (off:=3) (s:=1) o3 (by kernel_rfl) (by kernel_rfl) h
 have q:=(wF q0 (wF q1 (wF q2 q3 rfl) rfl) rfl)
 rw [List.drop_zero,List.take_of_length_le (by rw [hl];exact Nat.le_of_eq (by kernel_rfl))]at q
 exact⟨Part.mk a0 a1 a2 a3,q,k0,k1,k2,k3⟩
theorem o126 {H:Type}{enc:TypeId×Value->H}{w:World}{base:Nat}{sp:Nat->Bool}{held:Bool}:bV enc Tryz.prog w base sp held 126 (Rp.sl jD) (λx=>okL (λx=>aTi x) x):=pR Tryz.underlying126 (by kernel_rfl) (by decide) o251
theorem o29 {H:Type}{enc:TypeId×Value->H}{w:World}{base:Nat}{sp:Nat->Bool}{held:Bool}:bV enc Tryz.prog w base sp held 29 (Rp.sl Rp.str) (λx=>okL (λx=>okS x) x):=pR Tryz.underlying29 (by kernel_rfl) (by decide) o9
theorem o128 {H:Type}{enc:TypeId×Value->H}{w:World}{base:Nat}{sp:Nat->Bool}{held:Bool}:bV enc Tryz.prog w base sp held 128 uT (λx=>aJa x):=by
 intro fuel cs x h
 have hl:=nD (i:=0) (ft:=9) (off:=0) (by kernel_rfl) h
 obtain⟨a0,q0,k0⟩:=xP (i:=0) (ft:=9) (off:=0) (s:=1) o9 (by kernel_rfl) (by kernel_rfl) h
 obtain⟨a1,q1,k1⟩:=xP (i:=1) (ft:=3) (off:=1) (s:=1) o3 (by kernel_rfl) (by kernel_rfl) h
 obtain⟨a2,q2,k2⟩:=xP (i:=2) (ft:=126) (off:=2) (s:=1) o126 (by kernel_rfl) (by kernel_rfl) h
 obtain⟨a3,q3,k3⟩:=xP (i:=3) (ft:=3) (off:=3) (s:=1) o3 (by kernel_rfl) (by kernel_rfl) h
 obtain⟨a4,q4,k4⟩:=xP (i:=4) (ft:=3) (off:=4) (s:=1) o3 (by kernel_rfl) (by kernel_rfl) h
 obtain⟨a5,q5,k5⟩:=xP (i:=5) (ft:=3) (off:=5) (s:=1) o3 (by kernel_rfl) (by kernel_rfl) h
 obtain⟨a6,q6,k6⟩:=xP (i:=6) (ft:=3) (off:=6) (s:=1) o3 (by kernel_rfl) (by kernel_rfl) h
 obtain⟨a7,q7,k7⟩:=xP (i:=7) (ft:=29) (off:=7) (s:=1) o29 (by kernel_rfl) (by kernel_rfl) h
 have q:=(wF q0 (wF q1 (wF q2 (wF q3 (wF q4 (wF q5 (wF q6 q7 rfl) rfl) rfl) rfl) rfl) rfl) rfl)
 rw [List.drop_zero,List.take_of_length_le (by rw [hl];exact Nat.le_of_eq (by kernel_rfl))]at q
 exact⟨Param.mk a0 a1 a2 a3 a4 a5 a6 a7,q,k0,k1,k2,k3,k4,k5,k6,k7⟩
theorem o22 {H:Type}{enc:TypeId×Value->H}{w:World}{base:Nat}{sp:Nat->Bool}{held:Bool}:bV enc Tryz.prog w base sp held 22 (Rp.sl uT) (λx=>okL (λx=>aJa x) x):=pR Tryz.underlying22 (by kernel_rfl) (by decide) o128
theorem o24 {H:Type}{enc:TypeId×Value->H}{w:World}{base:Nat}{sp:Nat->Bool}{held:Bool}:bV enc Tryz.prog w base sp held 24 rMap (λx=>okMap x):=by
 intro fuel cs x h
 have hl:=nD (i:=0) (ft:=3) (off:=0) (by kernel_rfl) h
 obtain⟨a0,q0,k0⟩:=xP (i:=0) (ft:=3) (off:=0) (s:=1) o3 (by kernel_rfl) (by kernel_rfl) h
 obtain⟨a1,q1,k1⟩:=xP (i:=1) (ft:=22) (off:=1) (s:=1) o22 (by kernel_rfl) (by kernel_rfl) h
 have q:=(wF q0 q1 rfl)
 rw [List.drop_zero,List.take_of_length_le (by rw [hl];exact Nat.le_of_eq (by kernel_rfl))]at q
 exact⟨Map.mk a0 a1,q,k0,k1⟩
theorem o197 {H:Type}{enc:TypeId×Value->H}{w:World}{base:Nat}{sp:Nat->Bool}{held:Bool}:bV enc Tryz.prog w base sp held 197 rO (λx=>aVc x):=by
 intro fuel cs x h
 have hl:=nD (i:=0) (ft:=3) (off:=0) (by kernel_rfl) h
 obtain⟨a0,q0,k0⟩:=xP (i:=0) (ft:=3) (off:=0) (s:=1) o3 (by kernel_rfl) (by kernel_rfl) h
 obtain⟨a1,q1,k1⟩:=xP (i:=1) (ft:=3) (off:=1) (s:=1) o3 (by kernel_rfl) (by kernel_rfl) h
 obtain⟨a2,q2,k2⟩:=xP (i:=2) (ft:=3) (off:=2) (s:=1) o3 (by kernel_rfl) (by kernel_rfl) h
 obtain⟨a3,q3,k3⟩:=xP (i:=3) (ft:=3) (off:=3) (s:=1) o3 (by kernel_rfl) (by kernel_rfl) h
 have q:=(wF q0 (wF q1 (wF q2 q3 rfl) rfl) rfl)
 rw [List.drop_zero,List.take_of_length_le (by rw [hl];exact Nat.le_of_eq (by kernel_rfl))]at q
 exact⟨Line.mk a0 a1 a2 a3,q,k0,k1,k2,k3⟩
theorem o144 {H:Type}{enc:TypeId×Value->H}{w:World}{base:Nat}{sp:Nat->Bool}{held:Bool}:bV enc Tryz.prog w base sp held 144 (Rp.sl rO) (λx=>okL (λx=>aVc x) x):=pR Tryz.underlying144 (by kernel_rfl) (by decide) o197
theorem o146 {H:Type}{enc:TypeId×Value->H}{w:World}{base:Nat}{sp:Nat->Bool}{held:Bool}:bV enc Tryz.prog w base sp held 146 dN (λx=>wM x):=by
 intro fuel cs x h
 have hl:=nD (i:=0) (ft:=3) (off:=0) (by kernel_rfl) h
 obtain⟨a0,q0,k0⟩:=xP (i:=0) (ft:=3) (off:=0) (s:=1) o3 (by kernel_rfl) (by kernel_rfl) h
 obtain⟨a1,q1,k1⟩:=xP (i:=1) (ft:=144) (off:=1) (s:=1) o144 (by kernel_rfl) (by kernel_rfl) h
 obtain⟨a2,q2,k2⟩:=xP (i:=2) (ft:=3) (off:=2) (s:=1) o3 (by kernel_rfl) (by kernel_rfl) h
 obtain⟨a3,q3,k3⟩:=xP (i:=3) (ft:=3) (off:=3) (s:=1) o3 (by kernel_rfl) (by kernel_rfl) h
 have q:=(wF q0 (wF q1 (wF q2 q3 rfl) rfl) rfl)
 rw [List.drop_zero,List.take_of_length_le (by rw [hl];exact Nat.le_of_eq (by kernel_rfl))]at q
 exact⟨eG.mk a0 a1 a2 a3,q,k0,k1,k2,k3⟩
theorem o54 {H:Type}{enc:TypeId×Value->H}{w:World}{base:Nat}{sp:Nat->Bool}{held:Bool}:bV enc Tryz.prog w base sp held 54 (Rp.sl dN) (λx=>okL (λx=>wM x) x):=pR Tryz.underlying54 (by kernel_rfl) (by decide) o146
theorem o56 {H:Type}{enc:TypeId×Value->H}{w:World}{base:Nat}{sp:Nat->Bool}{held:Bool}:bV enc Tryz.prog w base sp held 56 rX (λx=>aGq x):=by
 intro fuel cs x h
 have hl:=nD (i:=0) (ft:=9) (off:=0) (by kernel_rfl) h
 obtain⟨a0,q0,k0⟩:=xP (i:=0) (ft:=9) (off:=0) (s:=1) o9 (by kernel_rfl) (by kernel_rfl) h
 obtain⟨a1,q1,k1⟩:=xP (i:=1) (ft:=9) (off:=1) (s:=1) o9 (by kernel_rfl) (by kernel_rfl) h
 obtain⟨a2,q2,k2⟩:=xP (i:=2) (ft:=54) (off:=2) (s:=1) o54 (by kernel_rfl) (by kernel_rfl) h
 obtain⟨a3,q3,k3⟩:=xP (i:=3) (ft:=3) (off:=3) (s:=1) o3 (by kernel_rfl) (by kernel_rfl) h
 have q:=(wF q0 (wF q1 (wF q2 q3 rfl) rfl) rfl)
 rw [List.drop_zero,List.take_of_length_le (by rw [hl];exact Nat.le_of_eq (by kernel_rfl))]at q
 exact⟨eH.mk a0 a1 a2 a3,q,k0,k1,k2,k3⟩
theorem o25 {H:Type}{enc:TypeId×Value->H}{w:World}{base:Nat}{sp:Nat->Bool}{held:Bool}:bV enc Tryz.prog w base sp held 25 (Rp.sl rX) (λx=>okL (λx=>aGq x) x):=pR Tryz.underlying25 (by kernel_rfl) (by decide) o56
theorem o111 {H:Type}{enc:TypeId×Value->H}{w:World}{base:Nat}{sp:Nat->Bool}{held:Bool}:bV enc Tryz.prog w base sp held 111 (Rp.int .u16) (λx=>(Lit.int .u16 x).wf=true):=aNh Tryz.underlying111
theorem o113 {H:Type}{enc:TypeId×Value->H}{w:World}{base:Nat}{sp:Nat->Bool}{held:Bool}:bV enc Tryz.prog w base sp held 113 (Rp.fl (Fl.arr 64 (Fl.int .u16))) (λx=>(∀y∈x.l,(Lit.int .u16 y).wf=true)):=aMn Tryz.underlying113 (by kernel_rfl) (by kernel_rfl) o111
theorem o114 {H:Type}{enc:TypeId×Value->H}{w:World}{base:Nat}{sp:Nat->Bool}{held:Bool}:bV enc Tryz.prog w base sp held 114 (Rp.fl (Fl.arr 64 (Fl.int .i64))) (λx=>(∀y∈x.l,i64 y)):=aMn Tryz.underlying114 (by kernel_rfl) (by kernel_rfl) o3
theorem o4 {H:Type}{enc:TypeId×Value->H}{w:World}{base:Nat}{sp:Nat->Bool}{held:Bool}:bV enc Tryz.prog w base sp held 4 Rp.bool (λ_=>True):=aUr Tryz.underlying4
theorem o116 {H:Type}{enc:TypeId×Value->H}{w:World}{base:Nat}{sp:Nat->Bool}{held:Bool}:bV enc Tryz.prog w base sp held 116 aAr (λx=>aIu x):=by
 intro fuel cs x h
 have hl:=nD (i:=0) (ft:=3) (off:=0) (by kernel_rfl) h
 obtain⟨a0,q0,k0⟩:=xP (i:=0) (ft:=3) (off:=0) (s:=1) o3 (by kernel_rfl) (by kernel_rfl) h
 obtain⟨a1,q1,k1⟩:=xP (i:=1) (ft:=113) (off:=1) (s:=64) o113 (by kernel_rfl) (by kernel_rfl) h
 obtain⟨a2,q2,k2⟩:=xP (i:=2) (ft:=114) (off:=65) (s:=64) o114 (by kernel_rfl) (by kernel_rfl) h
 obtain⟨a3,q3,k3⟩:=xP (i:=3) (ft:=4) (off:=129) (s:=1) o4 (by kernel_rfl) (by kernel_rfl) h
 obtain⟨a4,q4,k4⟩:=xP (i:=4) (ft:=3) (off:=130) (s:=1) o3 (by kernel_rfl) (by kernel_rfl) h
 obtain⟨a5,q5,k5⟩:=xP (i:=5) (ft:=4) (off:=131) (s:=1) o4 (by kernel_rfl) (by kernel_rfl) h
 have q:=(wF q0 (wF q1 (wF q2 (wF q3 (wF q4 q5 rfl) rfl) rfl) rfl) rfl)
 rw [List.drop_zero,List.take_of_length_le (by rw [hl];exact Nat.le_of_eq (by kernel_rfl))]at q
 exact⟨gV.mk a0 a1 a2 a3 a4 a5,q,k0,k1,k2,k3,k4,k5⟩
theorem o26 {H:Type}{enc:TypeId×Value->H}{w:World}{base:Nat}{sp:Nat->Bool}{held:Bool}:bV enc Tryz.prog w base sp held 26 (Rp.sl aAr) (λx=>okL (λx=>aIu x) x):=pR Tryz.underlying26 (by kernel_rfl) (by decide) o116
theorem o28 {H:Type}{enc:TypeId×Value->H}{w:World}{base:Nat}{sp:Nat->Bool}{held:Bool}:bV enc Tryz.prog w base sp held 28 rBook (λx=>aVm x):=by
 intro fuel cs x h
 have hl:=nD (i:=0) (ft:=24) (off:=0) (by kernel_rfl) h
 obtain⟨a0,q0,k0⟩:=xP (i:=0) (ft:=24) (off:=0) (s:=2) o24 (by kernel_rfl) (by kernel_rfl) h
 obtain⟨a1,q1,k1⟩:=xP (i:=1) (ft:=25) (off:=2) (s:=1) o25 (by kernel_rfl) (by kernel_rfl) h
 obtain⟨a2,q2,k2⟩:=xP (i:=2) (ft:=26) (off:=3) (s:=1) o26 (by kernel_rfl) (by kernel_rfl) h
 have q:=(wF q0 (wF q1 q2 rfl) rfl)
 rw [List.drop_zero,List.take_of_length_le (by rw [hl];exact Nat.le_of_eq (by kernel_rfl))]at q
 exact⟨Book.mk a0 a1 a2,q,k0,k1,k2⟩
theorem o98 {H:Type}{enc:TypeId×Value->H}{w:World}{base:Nat}{sp:Nat->Bool}{held:Bool}:bV enc Tryz.prog w base sp held 98 aT (λx=>aKw x):=by
 intro fuel cs x h
 have hl:=nD (i:=0) (ft:=3) (off:=0) (by kernel_rfl) h
 obtain⟨a0,q0,k0⟩:=xP (i:=0) (ft:=3) (off:=0) (s:=1) o3 (by kernel_rfl) (by kernel_rfl) h
 obtain⟨a1,q1,k1⟩:=xP (i:=1) (ft:=3) (off:=1) (s:=1) o3 (by kernel_rfl) (by kernel_rfl) h
 have q:=(wF q0 q1 rfl)
 rw [List.drop_zero,List.take_of_length_le (by rw [hl];exact Nat.le_of_eq (by kernel_rfl))]at q
 exact⟨fC.mk a0 a1,q,k0,k1⟩
theorem o31 {H:Type}{enc:TypeId×Value->H}{w:World}{base:Nat}{sp:Nat->Bool}{held:Bool}:bV enc Tryz.prog w base sp held 31 (Rp.sl aT) (λx=>okL (λx=>aKw x) x):=pR Tryz.underlying31 (by kernel_rfl) (by decide) o98
theorem o96 {H:Type}{enc:TypeId×Value->H}{w:World}{base:Nat}{sp:Nat->Bool}{held:Bool}:bV enc Tryz.prog w base sp held 96 aBp (λx=>aGc x):=by
 intro fuel cs x h
 have hl:=nD (i:=0) (ft:=9) (off:=0) (by kernel_rfl) h
 obtain⟨a0,q0,k0⟩:=xP (i:=0) (ft:=9) (off:=0) (s:=1) o9 (by kernel_rfl) (by kernel_rfl) h
 obtain⟨a1,q1,k1⟩:=xP (i:=1) (ft:=3) (off:=1) (s:=1) o3 (by kernel_rfl) (by kernel_rfl) h
 obtain⟨a2,q2,k2⟩:=xP (i:=2) (ft:=3) (off:=2) (s:=1) o3 (by kernel_rfl) (by kernel_rfl) h
 obtain⟨a3,q3,k3⟩:=xP (i:=3) (ft:=3) (off:=3) (s:=1) o3 (by kernel_rfl) (by kernel_rfl) h
 obtain⟨a4,q4,k4⟩:=xP (i:=4) (ft:=31) (off:=4) (s:=1) o31 (by kernel_rfl) (by kernel_rfl) h
 have q:=(wF q0 (wF q1 (wF q2 (wF q3 q4 rfl) rfl) rfl) rfl)
 rw [List.drop_zero,List.take_of_length_le (by rw [hl];exact Nat.le_of_eq (by kernel_rfl))]at q
 exact⟨fB.mk a0 a1 a2 a3 a4,q,k0,k1,k2,k3,k4⟩
theorem o48 {H:Type}{enc:TypeId×Value->H}{w:World}{base:Nat}{sp:Nat->Bool}{held:Bool}:bV enc Tryz.prog w base sp held 48 (Rp.sl aBp) (λx=>okL (λx=>aGc x) x):=pR Tryz.underlying48 (by kernel_rfl) (by decide) o96
theorem gTab3:Tryz.prog.globalNamed "internal/strconv.uint64pow10" =some 3:=by kernel_rfl
theorem gTabType3:(Tryz.prog.globals[3]?).map (·.type)=some 338:=by kernel_rfl
theorem gc338:Tryz.prog.cellsOf 338=20:=by kernel_rfl
theorem gce338:Tryz.prog.cellsOf 250=1:=by kernel_rfl
theorem gf3:Rows.findingOrderMatchesSpecRow.laid.filter (λx=>x.1== "internal/strconv.uint64pow10")=[("internal/strconv.uint64pow10",Lib.tabData .u64 [1,10,100,1000,10000,100000,1000000,10000000,100000000,1000000000,10000000000,100000000000,1000000000000,10000000000000,100000000000000,1000000000000000,10000000000000000,100000000000000000,1000000000000000000,10000000000000000000])]:=by kernel_rfl
theorem table3 {W:World}(h:laidMetH Tryz.prog Rows.findingOrderMatchesSpecRow.laid W):Lib.TabIs Tryz.prog W "internal/strconv.uint64pow10" .u64 [1,10,100,1000,10000,100000,1000000,10000000,100000000,1000000000,10000000000,100000000000,1000000000000,10000000000000,100000000000000,1000000000000000,10000000000000000,100000000000000000,1000000000000000000,10000000000000000000]:=by
 have q:=h.filter (λx=>x.1== "internal/strconv.uint64pow10")
 rw [gf3]at q
 exact Lib.tabIs_of_head (rest:=[]) gTab3 gTabType3 Tryz.underlying338 Tryz.underlying250 gce338 gc338 q
theorem tabItem3 {W:World}(h:laidMetH Tryz.prog Rows.findingOrderMatchesSpecRow.laid W):(Fz.at 3 0 ((Fl.arr 20 (Fl.int .u64)).f yD)).p (frees [] []) W:=by
 have q:=table3 h
 have c:Cells W ⟨3,0,none⟩ ((Fl.arr 20 (Fl.int .u64)).f yD):=by
  intro i v hv
  rw [Addr.add_none,Nat.zero_add]
  have hi:i<20:=by
   have h1:=(List.getElem?_eq_some_iff.1 hv).1
   exact h1
  have c:=q.cell gTab3 i hi
  have e:v= .int .u64 (([1,10,100,1000,10000,100000,1000000,10000000,100000000,1000000000,10000000000,100000000000,1000000000000,10000000000000,100000000000000,1000000000000000,10000000000000000,100000000000000000,1000000000000000000,10000000000000000000]:List Int).getD i 0):=by
   match i,hi,hv with
   |0,_,hv=>exact(Option.some.inj hv).symm
   |1,_,hv=>exact(Option.some.inj hv).symm
   |2,_,hv=>exact(Option.some.inj hv).symm
   |3,_,hv=>exact(Option.some.inj hv).symm
   |4,_,hv=>exact(Option.some.inj hv).symm
   |5,_,hv=>exact(Option.some.inj hv).symm
   |6,_,hv=>exact(Option.some.inj hv).symm
   |7,_,hv=>exact(Option.some.inj hv).symm
   |8,_,hv=>exact(Option.some.inj hv).symm
   |9,_,hv=>exact(Option.some.inj hv).symm
   |10,_,hv=>exact(Option.some.inj hv).symm
   |11,_,hv=>exact(Option.some.inj hv).symm
   |12,_,hv=>exact(Option.some.inj hv).symm
   |13,_,hv=>exact(Option.some.inj hv).symm
   |14,_,hv=>exact(Option.some.inj hv).symm
   |15,_,hv=>exact(Option.some.inj hv).symm
   |16,_,hv=>exact(Option.some.inj hv).symm
   |17,_,hv=>exact(Option.some.inj hv).symm
   |18,_,hv=>exact(Option.some.inj hv).symm
   |19,_,hv=>exact(Option.some.inj hv).symm
  rw [e];exact c
 refine⟨by simp [frees,bks],?_,c⟩
 exact World.block_lt_of_cell? _ _ (q.cell gTab3 0 (by decide))
theorem gTab1:Tryz.prog.globalNamed "orangebox/frame.syncs" =some 1:=by kernel_rfl
theorem gTabType1:(Tryz.prog.globals[1]?).map (·.type)=some 322:=by kernel_rfl
theorem gc322:Tryz.prog.cellsOf 322=4:=by kernel_rfl
theorem gce322:Tryz.prog.cellsOf 111=1:=by kernel_rfl
theorem gf1:Rows.findingOrderMatchesSpecRow.laid.filter (λx=>x.1== "orangebox/frame.syncs")=[("orangebox/frame.syncs",Lib.tabData .u16 [583,1464,2631,3512])]:=by kernel_rfl
theorem table1 {W:World}(h:laidMetH Tryz.prog Rows.findingOrderMatchesSpecRow.laid W):Lib.TabIs Tryz.prog W "orangebox/frame.syncs" .u16 [583,1464,2631,3512]:=by
 have q:=h.filter (λx=>x.1== "orangebox/frame.syncs")
 rw [gf1]at q
 exact Lib.tabIs_of_head (rest:=[]) gTab1 gTabType1 Tryz.underlying322 Tryz.underlying111 gce322 gc322 q
theorem tabItem1 {W:World}(h:laidMetH Tryz.prog Rows.findingOrderMatchesSpecRow.laid W):(Fz.at 1 0 ((Fl.arr 4 (Fl.int .u16)).f xJ)).p (frees [] []) W:=by
 have q:=table1 h
 have c:Cells W ⟨1,0,none⟩ ((Fl.arr 4 (Fl.int .u16)).f xJ):=by
  intro i v hv
  rw [Addr.add_none,Nat.zero_add]
  have hi:i<4:=by
   have h1:=(List.getElem?_eq_some_iff.1 hv).1
   exact h1
  have c:=q.cell gTab1 i hi
  have e:v= .int .u16 (([583,1464,2631,3512]:List Int).getD i 0):=by
   match i,hi,hv with
   |0,_,hv=>exact(Option.some.inj hv).symm
   |1,_,hv=>exact(Option.some.inj hv).symm
   |2,_,hv=>exact(Option.some.inj hv).symm
   |3,_,hv=>exact(Option.some.inj hv).symm
  rw [e];exact c
 refine⟨by simp [frees,bks],?_,c⟩
 exact World.block_lt_of_cell? _ _ (q.cell gTab1 0 (by decide))
theorem gTab2:Tryz.prog.globalNamed "orangebox/event.opSigns" =some 2:=by kernel_rfl
theorem gTabType2:(Tryz.prog.globals[2]?).map (·.type)=some 331:=by kernel_rfl
theorem gc331:Tryz.prog.cellsOf 331=7:=by kernel_rfl
theorem gce331:Tryz.prog.cellsOf 9=1:=by kernel_rfl
theorem gf2:Rows.findingOrderMatchesSpecRow.laid.filter (λx=>x.1== "orangebox/event.opSigns")=[("orangebox/event.opSigns",aIl [[],[60],[60,61],[61],[33,61],[62,61],[62]])]:=by kernel_rfl
theorem strItem2 {W:World}(h:laidMetH Tryz.prog Rows.findingOrderMatchesSpecRow.laid W):(Fz.at 2 0 ((Fl.arr 7 Fl.str).f yU)).p (frees [] []) W:=by
 have q:=h.filter (λx=>x.1== "orangebox/event.opSigns")
 rw [gf2]at q
 have q:=aQa gTab2 gTabType2 Tryz.underlying331 Tryz.underlying9 gce331 gc331 q
 have c:Cells W ⟨2,0,none⟩ ((Fl.arr 7 Fl.str).f yU):=by
  intro i v hv
  rw [Addr.add_none,Nat.zero_add]
  have hi:i<7:=by
   have h1:=(List.getElem?_eq_some_iff.1 hv).1
   exact h1
  match i,hi,hv with
  |0,_,hv=>rw [q 0 _ rfl];exact hv
  |1,_,hv=>rw [q 1 _ rfl];exact hv
  |2,_,hv=>rw [q 2 _ rfl];exact hv
  |3,_,hv=>rw [q 3 _ rfl];exact hv
  |4,_,hv=>rw [q 4 _ rfl];exact hv
  |5,_,hv=>rw [q 5 _ rfl];exact hv
  |6,_,hv=>rw [q 6 _ rfl];exact hv
 refine⟨by simp [frees,bks],?_,c⟩
 exact World.block_lt_of_cell? _ _ (q 0 _ rfl)
theorem gTab4:Tryz.prog.globalNamed "strconv.ErrSyntax" =some 4:=by kernel_rfl
theorem gTabType4:(Tryz.prog.globals[4]?).map (·.type)=some 305:=by kernel_rfl
theorem gf4:Rows.findingOrderMatchesSpecRow.laid.filter (λx=>x.1== "strconv.ErrSyntax")=[("strconv.ErrSyntax",Rows.laid_strconv_ErrSyntax)]:=by kernel_rfl
theorem giItem4 {W:World}(h:laidMetH Tryz.prog Rows.findingOrderMatchesSpecRow.laid W):(Fz.gi 4).p (frees [] []) W:=by
 have q:=h.filter (λx=>x.1== "strconv.ErrSyntax")
 rw [gf4]at q
 obtain⟨T,v,c⟩:=aLy gTab4 gTabType4 Tryz.underlying305 q
 refine⟨by simp [frees,bks],World.block_lt_of_cell? _ _ c,_,?_,.inr ⟨T,v,rfl⟩⟩
 intro i x hx
 match i,hx with
 |0,hx=>rw [<-hx];exact c
set_option maxHeartbeats 2000000 in
set_option maxRecDepth 100000 in
theorem contract (H:Type) (enc:TypeId×Value->H) (W:World) (base:Nat) (args:Array Value) (ds gs:List (DataW H)) (before:List MemPlace)
  (hval: ∀(j:Nat) t v,Tryz.f5.params[j]? =some t->args[j]? =some v->Value.okWide Tryz.prog W .any base t v)
  (hW:DataW.Whole enc Tryz.prog Tryz.f5.params.toList Rows.findingOrderMatchesSpecSpec.vars false W args.toList ds gs before) (hL:laidMetH Tryz.prog Rows.findingOrderMatchesSpecRow.laid W):
  Calls Tryz.prog 5 args W λe W'=> ∃v,e= .returned v/\Rows.findingOrderMatchesSpecSpec.post enc Tryz.prog Tryz.f5 false true false false W args v W':=by
 have hW':=hW
 obtain⟨p,q,hA0,hV,rfl,hfz,hnd⟩:=hW
 have hA:DataW.TrodAll enc Tryz.prog W 0 (λ_=>true) true Tryz.f5.params.toList args.toList ds p:=hA0
 rw [Tryz.params5]at hA hval
 obtain⟨v0,vs0,d0,ds0,p0,q0,hargs,rfl,rfl,h0,r0⟩:=trodAll_cons hA
 obtain⟨v1,vs1,d1,ds1,p1,q1,rfl,rfl,rfl,h1,r1⟩:=trodAll_cons r0
 obtain⟨rfl,rfl,rfl⟩:=trodAll_nil r1
 obtain rfl:args= #[v0,v1]:=by cases args;simp_all
 obtain⟨rfl,rfl⟩:=trodVars_none hV
 have k0:=h0
 have lt0: ∀x∈p0,x.block<W.heap.size:=by obtain⟨m,hm⟩:=k0;exact DataW.trod_lt m _ _ _ hm
 obtain⟨fu0,hf0⟩:=h0
 obtain⟨x0,y0,z0⟩:=o28 fu0 _ _ hf0
 obtain⟨cs0,rfl⟩:=aTp (t:=28) (by kernel_rfl) (hval 0 28 v0 rfl rfl)
 obtain⟨u0_100,u0_101,u0_102,e0,s0_0,s0_1,s0_2⟩:=aVa y0
 obtain rfl:cs0=[.int .i64 x0.Map.Version,u0_100,u0_101,u0_102].toArray:=by apply Array.ext';exact e0
 have k1:=h1
 have lt1: ∀x∈p1,x.block<W.heap.size:=by obtain⟨m,hm⟩:=k1;exact DataW.trod_lt m _ _ _ hm
 obtain⟨fu1,hf1⟩:=h1
 obtain⟨x1,y1,z1⟩:=o48 fu1 _ _ hf1
 obtain⟨a1,n1,c1,rfl⟩:=okWide_slice Tryz.underlying48 (hval 1 48 v1 rfl rfl)
 obtain⟨u1,e1,s1_0⟩:=y1
 obtain rfl:Value.slice a1 n1 c1=u1:=by have y:[Value.slice a1 n1 c1]=[u1]:=e1;simpa using y
 clear hA0
 have HH:=(Hd.fresh0 W).fzs [.sl uT u0_100 x0.Map.Params,.sl rX u0_101 x0.Sources,.sl aAr u0_102 x0.Rests,.sl aBp (.slice a1 n1 c1) x1,.at 1 0 ((Fl.arr 4 (Fl.int .u16)).f xJ),.at 2 0 ((Fl.arr 7 Fl.str).f yU),.at 3 0 ((Fl.arr 20 (Fl.int .u64)).f yD),.gi 4] ⟨aJd s0_0,aJd s0_1,aJd s0_2,aJd s1_0,tabItem1 hL,strItem2 hL,tabItem3 hL,giItem4 hL,trivial⟩
 refine(L.Febw x0 x1 u0_100 u0_101 u0_102 (.slice a1 n1 c1) true (law_Order x0 x1 z0 z1) HH).mono λe W' ⟨he,G⟩=>?_
 subst he
 have bel:Below W.heap.size W W':=G.only.below
 exact⟨_,rfl,_,_,_,[],_,[],hW',trodAll_mk1 (shut_bool Tryz.underlying4 _),(trodAll_cons_mk (Below.trod laidOut (by kernel_rfl) (of_decide_eq_true (by kernel_rfl)) k0 bel lt0) (trodAll_cons_mk (Below.trod laidOut (by kernel_rfl) (of_decide_eq_true (by kernel_rfl)) k1 bel lt1) trodAll_mk0)),rfl,bel.frame _,λh=>by cases h⟩

noncomputable def laidWorld (os:Os):World:=
 {World.holding Tryz.prog os ⟨#[.cells #[.string ⟨#[118,97,108,117,101,32,111,117,116,32,111,102,32,114,97,110,103,101]⟩] 375 (0,0),.cells #[.string ⟨#[105,110,118,97,108,105,100,32,115,121,110,116,97,120]⟩] 375 (0,0)],#[],[]⟩with heap:=((((((((World.holding Tryz.prog os ⟨#[.cells #[.string ⟨#[118,97,108,117,101,32,111,117,116,32,111,102,32,114,97,110,103,101]⟩] 375 (0,0),.cells #[.string ⟨#[105,110,118,97,108,105,100,32,115,121,110,116,97,120]⟩] 375 (0,0)],#[],[]⟩).heap.modify 6 λ
   | .cells _ t frozen=> .cells #[.int .u8 0,.int .u8 1,.int .u8 28,.int .u8 2,.int .u8 29,.int .u8 14,.int .u8 24,.int .u8 3,.int .u8 30,.int .u8 22,.int .u8 20,.int .u8 15,.int .u8 25,.int .u8 17,.int .u8 4,.int .u8 8,.int .u8 31,.int .u8 27,.int .u8 13,.int .u8 23,.int .u8 21,.int .u8 19,.int .u8 16,.int .u8 7,.int .u8 26,.int .u8 12,.int .u8 18,.int .u8 6,.int .u8 11,.int .u8 5,.int .u8 10,.int .u8 9] t frozen
   |o=>o).modify 7 λ
   | .cells _ t frozen=> .cells #[.int .u8 0,.int .u8 1,.int .u8 56,.int .u8 2,.int .u8 57,.int .u8 49,.int .u8 28,.int .u8 3,.int .u8 61,.int .u8 58,.int .u8 42,.int .u8 50,.int .u8 38,.int .u8 29,.int .u8 17,.int .u8 4,.int .u8 62,.int .u8 47,.int .u8 59,.int .u8 36,.int .u8 45,.int .u8 43,.int .u8 51,.int .u8 22,.int .u8 53,.int .u8 39,.int .u8 33,.int .u8 30,.int .u8 24,.int .u8 18,.int .u8 12,.int .u8 5,.int .u8 63,.int .u8 55,.int .u8 48,.int .u8 27,.int .u8 60,.int .u8 41,.int .u8 37,.int .u8 16,.int .u8 46,.int .u8 35,.int .u8 44,.int .u8 21,.int .u8 52,.int .u8 32,.int .u8 23,.int .u8 11,.int .u8 54,.int .u8 26,.int .u8 40,.int .u8 15,.int .u8 34,.int .u8 20,.int .u8 31,.int .u8 10,.int .u8 25,.int .u8 14,.int .u8 19,.int .u8 9,.int .u8 13,.int .u8 8,.int .u8 7,.int .u8 6] t frozen
   |o=>o).modify 3 λ
   | .cells _ t frozen=> .cells #[.int .u64 1,.int .u64 10,.int .u64 100,.int .u64 1000,.int .u64 10000,.int .u64 100000,.int .u64 1000000,.int .u64 10000000,.int .u64 100000000,.int .u64 1000000000,.int .u64 10000000000,.int .u64 100000000000,.int .u64 1000000000000,.int .u64 10000000000000,.int .u64 100000000000000,.int .u64 1000000000000000,.int .u64 10000000000000000,.int .u64 100000000000000000,.int .u64 1000000000000000000,.int .u64 10000000000000000000] t frozen
   |o=>o).modify 1 λ
   | .cells _ t frozen=> .cells #[.int .u16 583,.int .u16 1464,.int .u16 2631,.int .u16 3512] t frozen
   |o=>o).modify 5 λ
   | .cells _ t frozen=> .cells #[.iface 373 (.pointer (some ⟨13,0,none⟩))] t frozen
   |o=>o).modify 4 λ
   | .cells _ t frozen=> .cells #[.iface 373 (.pointer (some ⟨14,0,none⟩))] t frozen
   |o=>o).modify 2 λ
   | .cells _ t frozen=> .cells #[.string ⟨#[]⟩,.string ⟨#[60]⟩,.string ⟨#[60,61]⟩,.string ⟨#[61]⟩,.string ⟨#[33,61]⟩,.string ⟨#[62,61]⟩,.string ⟨#[62]⟩] t frozen
   |o=>o)}
theorem laid_met (os:Os):laidMet Tryz.prog Rows.findingOrderMatchesSpecRow.laid ((laidWorld os).forCall (λ_ _=>0) ⟨#[],#[Value.agg #[.int .i64 0,.slice none 0 0,.slice none 0 0,.slice none 0 0],.slice none 0 0],[]⟩).memory:=
 laidMet_of_run' 8 (by kernel_rfl) (by kernel_rfl)
theorem reads (os:Os){H:Type}(enc:TypeId×Value->H): ∃places,DataW.whole enc Tryz.prog ((laidWorld os).forCall (λ_ _=>0) ⟨#[],#[Value.agg #[.int .i64 0,.slice none 0 0,.slice none 0 0,.slice none 0 0],.slice none 0 0],[]⟩).memory Tryz.f5.params.toList Rows.findingOrderMatchesSpecSpec.vars false #[(Value.agg #[.int .i64 0,.slice none 0 0,.slice none 0 0,.slice none 0 0]:Value),.slice none 0 0].toList 8=some ([.agg [.agg [.lit (.int .i64 0),.nil],.nil,.nil],.nil],[],places):=
 ⟨[],by kernel_rfl⟩

set_option maxRecDepth 100000 in
theorem lifted (os:Os)(started:os.Started)(H:Type)(enc:TypeId×Value->H)(F:Stop.Interp):
  ReturnsInHanded {} Tryz.checked os 5 .any ((OpenSpec.ofChange Rows.findingOrderMatchesSpecSpec).preRow enc Tryz.prog Tryz.f5 Rows.findingOrderMatchesSpecRow.domain false Rows.findingOrderMatchesSpecRow.laid) (((OpenSpec.ofChange Rows.findingOrderMatchesSpecSpec).at F).post enc Tryz.prog Tryz.f5 false true false false):=by
 obtain⟨places,hx⟩:=reads os enc
 refine returnsInHanded_of_row (C:=Tryz.checked) (s:=(OpenSpec.ofChange Rows.findingOrderMatchesSpecSpec)) own started (by kernel_rfl) Tryz.func5
  (witness_row_at (enc:=enc) (C:=Tryz.checked) false (laidWorld os) #[Value.agg #[.int .i64 0,.slice none 0 0,.slice none 0 0,.slice none 0 0],.slice none 0 0] rfl (by kernel_rfl) (by kernel_rfl) (by kernel_rfl)
   (OpenSpec.preRow_of_cond 8 hx (by kernel_rfl) (λk hk=>by cases hk) (by kernel_rfl) (laid_met os))) ?_
 intro W base args ds gs before hval hW _ _ _ hL _ _
 exact contract H enc W base args ds gs before hval hW hL

theorem said:Rows.FindingOrderMatchesSpecSaid:=
 OpenClaim.holds_of_cond 5 Tryz.f5 rfl rfl rfl rfl rfl rfl rfl ⟨rfl,rfl,rfl,rfl,rfl⟩ rfl rfl rfl rfl rfl (by kernel_rfl) Tryz.func5 closedF
  (of_decide_eq_true (by kernel_rfl)) (by unfold Func.isWrapper;first |(rw [if_pos (by decide+kernel)];kernel_rfl)|(rw [if_neg (by decide+kernel)];exact⟨rfl,rfl⟩))
  (λos started H enc _ F=>by rw [OpenClaim.pre_eq_preRow];exact lifted os started H enc F)
theorem plainP (f:FuncId)(fn:Func)(hf:Tryz.pinned.checked.prog.funcNamed "orangebox/orangeboxlaw7.FindingOrderMatchesSpec" =some f)(hfn:Tryz.pinned.checked.prog.funcs[f]? =some fn):
  true=Tryz.pinned.checked.prog.looks []/\ ∀(j:Nat) t,fn.params[j]? =some t->Tryz.pinned.checked.prog.wantsStandIn t=false:=by
 obtain rfl:f=5:=Option.some.inj ((show Tryz.prog.funcNamed "orangebox/orangeboxlaw7.FindingOrderMatchesSpec" =some 5 by kernel_rfl).symm.trans hf)|>.symm
 obtain rfl:fn=Tryz.f5:=(Option.some.inj (Tryz.func5.symm.trans hfn)).symm
 refine⟨looksF,λj t ht=>?_⟩
 rw [Tryz.params5]at ht
 have hall:(#[28,48]:Array TypeId).toList.all (λt=> !Tryz.prog.wantsStandIn t)=true:=by kernel_rfl
 have q:=List.all_eq_true.1 hall t (Array.mem_toList_iff.2 (Array.mem_of_getElem? ht))
 have q2:Tryz.prog.wantsStandIn t=false:=by simpa using q
 exact q2
theorem card:Rows.FindingOrderMatchesSpecCardSaid:=
 Claim7.holds_tied_plain_at .later [] _ _ _ _ said (λ_ h=>by cases h) (by kernel_rfl) (λ_ h=>by cases h) findingOrderMatchesSpec_row_tie rfl ⟨rfl,rfl⟩ (by kernel_rfl) rfl plainP goesF
end Go.Proofs.YtbjofgmdhbiekaaGreatDoor.findingOrderMatchesSpec
