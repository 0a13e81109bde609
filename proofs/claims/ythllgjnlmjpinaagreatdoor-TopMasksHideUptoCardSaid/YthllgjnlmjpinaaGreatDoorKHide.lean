/- The tied card over the second row: for every input that holds at most 1048576 values and letters the law's function returns true and each argument reads as it did. Condition: the package variables that the row lists hold what the program's text lays there. -/
import Derived.Test.YthllgjnlmjpinaaGreatDoorCards
import Derived.Test.YthllgjnlmjpinaaGreatDoorTie
import Derived.Lib.LaidTab
import Derived.LaidSub
import Derived.WalkKit
import Derived.ProofKit
import Derived.OpenShut
import Derived.Deep.DeepHandedRow
import Derived.SizedLaws
import Derived.Test.YthllgjnlmjpinaaGreatDoorUV10
import Derived.Test.YthllgjnlmjpinaaGreatDoorMHa
import Derived.Test.YthllgjnlmjpinaaGreatDoorLay1
import Derived.Test.YthllgjnlmjpinaaGreatDoorFHide
import Derived.Test.YthllgjnlmjpinaaGreatDoorOPb
namespace Go.Proofs.YthllgjnlmjpinaaGreatDoor.topMasksHide
open Go.ChangeShapes Go.WideShapes Go.ChangeAt Go.RowKit
open Go.OB Go.Lf
theorem one_le {H:Type}(d:DataW H):1≤Rows.uptoBulk d:=by
  cases d with
  | lit l=>cases l<;>simp [Rows.uptoBulk]
  | nil=>simp [Rows.uptoBulk]
  | ptr d=>simp [Rows.uptoBulk]
  | slice elems spare=>simp [Rows.uptoBulk]
  | agg parts=>simp [Rows.uptoBulk]
  | iface t d=>simp [Rows.uptoBulk]
  | map entries=>simp [Rows.uptoBulk]
  | held h=>simp [Rows.uptoBulk]
theorem aUg {H:Type}(l:List (DataW H)):Rows.uptoBulkAll l=(l.map Rows.uptoBulk).sum:=by
  induction l with
  | nil=>simp [Rows.uptoBulkAll]
  | cons x r ih=>simp only [Rows.uptoBulkAll,List.map_cons,List.sum_cons,ih]
theorem bulkOf {H:Type}:aRm (Rows.uptoBulk (H:=H)):=
  ⟨fun s=>by simp [Rows.uptoBulk],one_le,fun es sp=>by simp only [Rows.uptoBulk,aUg]; omega,fun ps=>by simp only [Rows.uptoBulk,aUg]; omega⟩
theorem laidOut:laidOutB Tryz.prog=true:=aJh
theorem own:ownKnob Tryz.prog.godebug=none:=by kernel_rfl
theorem o9 {H:Type}{enc:TypeId×Value→H}{w:World}{base:Nat}{sp:Nat→Bool}{held:Bool}:aF enc Tryz.prog w base sp held 9 Rp.str (fun x=>okS x):=opens_str Tryz.underlying9
theorem o3 {H:Type}{enc:TypeId×Value→H}{w:World}{base:Nat}{sp:Nat→Bool}{held:Bool}:aF enc Tryz.prog w base sp held 3 (Rp.int .i64) (fun x=>i64 x):=opens_i64 Tryz.underlying3
theorem o94 {H:Type}{enc:TypeId×Value→H}{w:World}{base:Nat}{sp:Nat→Bool}{held:Bool}:aF enc Tryz.prog w base sp held 94 fD (fun x=>aBk x):=by
  intro fuel cs x h
  have hl:=jH (i:=0) (ft:=3) (off:=0) (by kernel_rfl) h
  obtain ⟨a0,q0,k0⟩:=wE (i:=0) (ft:=3) (off:=0) (s:=1) o3 (by kernel_rfl) (by kernel_rfl) h
  obtain ⟨a1,q1,k1⟩:=wE (i:=1) (ft:=3) (off:=1) (s:=1) o3 (by kernel_rfl) (by kernel_rfl) h
  obtain ⟨a2,q2,k2⟩:=wE (i:=2) (ft:=3) (off:=2) (s:=1) o3 (by kernel_rfl) (by kernel_rfl) h
  have q:=(dM q0 (dM q1 q2 rfl) rfl)
  rw [List.drop_zero,List.take_of_length_le (by rw [hl]; exact Nat.le_of_eq (by kernel_rfl))] at q
  exact ⟨gZ.mk a0 a1 a2,q,k0,k1,k2⟩
theorem o88 {H:Type}{enc:TypeId×Value→H}{w:World}{base:Nat}{sp:Nat→Bool}{held:Bool}:aF enc Tryz.prog w base sp held 88 (Rp.sl fD) (fun x=>okL (fun x=>aBk x) x):=qU Tryz.underlying88 (by kernel_rfl) (by decide) o94
theorem o90 {H:Type}{enc:TypeId×Value→H}{w:World}{base:Nat}{sp:Nat→Bool}{held:Bool}:aF enc Tryz.prog w base sp held 90 aSn (fun x=>aQa x):=by
  intro fuel cs x h
  have hl:=jH (i:=0) (ft:=3) (off:=0) (by kernel_rfl) h
  obtain ⟨a0,q0,k0⟩:=wE (i:=0) (ft:=3) (off:=0) (s:=1) o3 (by kernel_rfl) (by kernel_rfl) h
  obtain ⟨a1,q1,k1⟩:=wE (i:=1) (ft:=88) (off:=1) (s:=1) o88 (by kernel_rfl) (by kernel_rfl) h
  have q:=(dM q0 q1 rfl)
  rw [List.drop_zero,List.take_of_length_le (by rw [hl]; exact Nat.le_of_eq (by kernel_rfl))] at q
  exact ⟨Series.mk a0 a1,q,k0,k1⟩
theorem o92 {H:Type}{enc:TypeId×Value→H}{w:World}{base:Nat}{sp:Nat→Bool}{held:Bool}:aF enc Tryz.prog w base sp held 92 fA (fun x=>aAb x):=by
  intro fuel cs x h
  have hl:=jH (i:=0) (ft:=9) (off:=0) (by kernel_rfl) h
  obtain ⟨a0,q0,k0⟩:=wE (i:=0) (ft:=9) (off:=0) (s:=1) o9 (by kernel_rfl) (by kernel_rfl) h
  obtain ⟨a1,q1,k1⟩:=wE (i:=1) (ft:=90) (off:=1) (s:=2) o90 (by kernel_rfl) (by kernel_rfl) h
  obtain ⟨a2,q2,k2⟩:=wE (i:=2) (ft:=3) (off:=3) (s:=1) o3 (by kernel_rfl) (by kernel_rfl) h
  have q:=(dM q0 (dM q1 q2 rfl) rfl)
  rw [List.drop_zero,List.take_of_length_le (by rw [hl]; exact Nat.le_of_eq (by kernel_rfl))] at q
  exact ⟨Track.mk a0 a1 a2,q,k0,k1,k2⟩
theorem o45 {H:Type}{enc:TypeId×Value→H}{w:World}{base:Nat}{sp:Nat→Bool}{held:Bool}:aF enc Tryz.prog w base sp held 45 (Rp.sl fA) (fun x=>okL (fun x=>aAb x) x):=qU Tryz.underlying45 (by kernel_rfl) (by decide) o92
theorem o47 {H:Type}{enc:TypeId×Value→H}{w:World}{base:Nat}{sp:Nat→Bool}{held:Bool}:aF enc Tryz.prog w base sp held 47 fP (fun x=>bJ x):=by
  intro fuel cs x h
  have hl:=jH (i:=0) (ft:=9) (off:=0) (by kernel_rfl) h
  obtain ⟨a0,q0,k0⟩:=wE (i:=0) (ft:=9) (off:=0) (s:=1) o9 (by kernel_rfl) (by kernel_rfl) h
  obtain ⟨a1,q1,k1⟩:=wE (i:=1) (ft:=9) (off:=1) (s:=1) o9 (by kernel_rfl) (by kernel_rfl) h
  obtain ⟨a2,q2,k2⟩:=wE (i:=2) (ft:=3) (off:=2) (s:=1) o3 (by kernel_rfl) (by kernel_rfl) h
  obtain ⟨a3,q3,k3⟩:=wE (i:=3) (ft:=3) (off:=3) (s:=1) o3 (by kernel_rfl) (by kernel_rfl) h
  obtain ⟨a4,q4,k4⟩:=wE (i:=4) (ft:=3) (off:=4) (s:=1) o3 (by kernel_rfl) (by kernel_rfl) h
  obtain ⟨a5,q5,k5⟩:=wE (i:=5) (ft:=45) (off:=5) (s:=1) o45 (by kernel_rfl) (by kernel_rfl) h
  have q:=(dM q0 (dM q1 (dM q2 (dM q3 (dM q4 q5 rfl) rfl) rfl) rfl) rfl)
  rw [List.drop_zero,List.take_of_length_le (by rw [hl]; exact Nat.le_of_eq (by kernel_rfl))] at q
  exact ⟨Flight.mk a0 a1 a2 a3 a4 a5,q,k0,k1,k2,k3,k4,k5⟩
theorem o22 {H:Type}{enc:TypeId×Value→H}{w:World}{base:Nat}{sp:Nat→Bool}{held:Bool}:aF enc Tryz.prog w base sp held 22 (Rp.sl fP) (fun x=>okL (fun x=>bJ x) x):=qU Tryz.underlying22 (by kernel_rfl) (by decide) o47
theorem o23 {H:Type}{enc:TypeId×Value→H}{w:World}{base:Nat}{sp:Nat→Bool}{held:Bool}:aF enc Tryz.prog w base sp held 23 (Rp.sl Rp.str) (fun x=>okL (fun x=>okS x) x):=qU Tryz.underlying23 (by kernel_rfl) (by decide) o9
theorem o110 {H:Type}{enc:TypeId×Value→H}{w:World}{base:Nat}{sp:Nat→Bool}{held:Bool}:aF enc Tryz.prog w base sp held 110 eQ (fun x=>aHu x):=opens_of fun M=>by
  induction M with
  | zero=>intro fuel cs x hf h; exact absurd hf (Nat.not_lt_zero _)
  | succ M ih=>
    intro fuel cs x hf h
    have hl:=jH (i:=0) (ft:=3) (off:=0) (by kernel_rfl) h
    obtain ⟨a0,q0,k0⟩:=wE (i:=0) (ft:=3) (off:=0) (s:=1) o3 (by kernel_rfl) (by kernel_rfl) h
    obtain ⟨a1,q1,k1⟩:=wE (i:=1) (ft:=9) (off:=1) (s:=1) o9 (by kernel_rfl) (by kernel_rfl) h
    obtain ⟨a2,q2,k2⟩:=wE (i:=2) (ft:=9) (off:=2) (s:=1) o9 (by kernel_rfl) (by kernel_rfl) h
    obtain ⟨a3,q3,k3⟩:=wE (i:=3) (ft:=3) (off:=3) (s:=1) o3 (by kernel_rfl) (by kernel_rfl) h
    obtain ⟨a4,q4,k4⟩:=wE (i:=4) (ft:=3) (off:=4) (s:=1) o3 (by kernel_rfl) (by kernel_rfl) h
    obtain ⟨a5,q5,k5⟩:=wE (i:=5) (ft:=3) (off:=5) (s:=1) o3 (by kernel_rfl) (by kernel_rfl) h
    obtain ⟨a6,q6,k6⟩:=part_rdB (i:=6) (ft:=108) (off:=6) (s:=1) (opB_sl Tryz.underlying108 (by kernel_rfl) (by decide) ih) (by kernel_rfl) (by kernel_rfl) (Nat.le_of_lt hf) h
    obtain ⟨v6,e6,s6⟩:=q6
    obtain ⟨n6,s6⟩:=slf_lim aJp s6
    have q6:(Rp.sl (rW n6)).rd All w ((cs.drop 6).take 1) a6:=⟨v6,e6,s6⟩
    have q:=(dM q0 (dM q1 (dM q2 (dM q3 (dM q4 (dM q5 q6 rfl) rfl) rfl) rfl) rfl) rfl)
    rw [List.drop_zero,List.take_of_length_le (by rw [hl]; exact Nat.le_of_eq (by kernel_rfl))] at q
    exact ⟨Cond.mk a0 a1 a2 a3 a4 a5 a6,⟨n6+1,q⟩,okCond_mk k0 k1 k2 k3 k4 k5 k6⟩
theorem o117 {H:Type}{enc:TypeId×Value→H}{w:World}{base:Nat}{sp:Nat→Bool}{held:Bool}:aF enc Tryz.prog w base sp held 117 eF (fun x=>aKy x):=by
  intro fuel cs x h
  have hl:=jH (i:=0) (ft:=9) (off:=0) (by kernel_rfl) h
  obtain ⟨a0,q0,k0⟩:=wE (i:=0) (ft:=9) (off:=0) (s:=1) o9 (by kernel_rfl) (by kernel_rfl) h
  obtain ⟨a1,q1,k1⟩:=wE (i:=1) (ft:=9) (off:=1) (s:=1) o9 (by kernel_rfl) (by kernel_rfl) h
  obtain ⟨a2,q2,k2⟩:=wE (i:=2) (ft:=110) (off:=2) (s:=7) o110 (by kernel_rfl) (by kernel_rfl) h
  have q:=(dM q0 (dM q1 q2 rfl) rfl)
  rw [List.drop_zero,List.take_of_length_le (by rw [hl]; exact Nat.le_of_eq (by kernel_rfl))] at q
  exact ⟨pK.mk a0 a1 a2,q,k0,k1,k2⟩
theorem o24 {H:Type}{enc:TypeId×Value→H}{w:World}{base:Nat}{sp:Nat→Bool}{held:Bool}:aF enc Tryz.prog w base sp held 24 (Rp.sl eF) (fun x=>okL (fun x=>aKy x) x):=qU Tryz.underlying24 (by kernel_rfl) (by decide) o117
theorem o112 {H:Type}{enc:TypeId×Value→H}{w:World}{base:Nat}{sp:Nat→Bool}{held:Bool}:aF enc Tryz.prog w base sp held 112 eU (fun x=>aQi x):=by
  intro fuel cs x h
  have hl:=jH (i:=0) (ft:=9) (off:=0) (by kernel_rfl) h
  obtain ⟨a0,q0,k0⟩:=wE (i:=0) (ft:=9) (off:=0) (s:=1) o9 (by kernel_rfl) (by kernel_rfl) h
  obtain ⟨a1,q1,k1⟩:=wE (i:=1) (ft:=110) (off:=1) (s:=7) o110 (by kernel_rfl) (by kernel_rfl) h
  have q:=(dM q0 q1 rfl)
  rw [List.drop_zero,List.take_of_length_le (by rw [hl]; exact Nat.le_of_eq (by kernel_rfl))] at q
  exact ⟨kE.mk a0 a1,q,k0,k1⟩
theorem o25 {H:Type}{enc:TypeId×Value→H}{w:World}{base:Nat}{sp:Nat→Bool}{held:Bool}:aF enc Tryz.prog w base sp held 25 (Rp.sl eU) (fun x=>okL (fun x=>aQi x) x):=qU Tryz.underlying25 (by kernel_rfl) (by decide) o112
theorem o27 {H:Type}{enc:TypeId×Value→H}{w:World}{base:Nat}{sp:Nat→Bool}{held:Bool}:aF enc Tryz.prog w base sp held 27 rRules (fun x=>aTa x):=by
  intro fuel cs x h
  have hl:=jH (i:=0) (ft:=23) (off:=0) (by kernel_rfl) h
  obtain ⟨a0,q0,k0⟩:=wE (i:=0) (ft:=23) (off:=0) (s:=1) o23 (by kernel_rfl) (by kernel_rfl) h
  obtain ⟨a1,q1,k1⟩:=wE (i:=1) (ft:=24) (off:=1) (s:=1) o24 (by kernel_rfl) (by kernel_rfl) h
  obtain ⟨a2,q2,k2⟩:=wE (i:=2) (ft:=25) (off:=2) (s:=1) o25 (by kernel_rfl) (by kernel_rfl) h
  have q:=(dM q0 (dM q1 q2 rfl) rfl)
  rw [List.drop_zero,List.take_of_length_le (by rw [hl]; exact Nat.le_of_eq (by kernel_rfl))] at q
  exact ⟨Rules.mk a0 a1 a2,q,k0,k1,k2⟩
theorem o4 {H:Type}{enc:TypeId×Value→H}{w:World}{base:Nat}{sp:Nat→Bool}{held:Bool}:aF enc Tryz.prog w base sp held 4 Rp.bool (fun x=>True):=aSg Tryz.underlying4
theorem o86 {H:Type}{enc:TypeId×Value→H}{w:World}{base:Nat}{sp:Nat→Bool}{held:Bool}:aF enc Tryz.prog w base sp held 86 fH (fun x=>aLp x):=by
  intro fuel cs x h
  have hl:=jH (i:=0) (ft:=9) (off:=0) (by kernel_rfl) h
  obtain ⟨a0,q0,k0⟩:=wE (i:=0) (ft:=9) (off:=0) (s:=1) o9 (by kernel_rfl) (by kernel_rfl) h
  obtain ⟨a1,q1,k1⟩:=wE (i:=1) (ft:=3) (off:=1) (s:=1) o3 (by kernel_rfl) (by kernel_rfl) h
  have q:=(dM q0 q1 rfl)
  rw [List.drop_zero,List.take_of_length_le (by rw [hl]; exact Nat.le_of_eq (by kernel_rfl))] at q
  exact ⟨eY.mk a0 a1,q,k0,k1⟩
theorem o28 {H:Type}{enc:TypeId×Value→H}{w:World}{base:Nat}{sp:Nat→Bool}{held:Bool}:aF enc Tryz.prog w base sp held 28 (Rp.sl fH) (fun x=>okL (fun x=>aLp x) x):=qU Tryz.underlying28 (by kernel_rfl) (by decide) o86
theorem o30 {H:Type}{enc:TypeId×Value→H}{w:World}{base:Nat}{sp:Nat→Bool}{held:Bool}:aF enc Tryz.prog w base sp held 30 rMask (fun x=>mD x):=by
  intro fuel cs x h
  have hl:=jH (i:=0) (ft:=4) (off:=0) (by kernel_rfl) h
  obtain ⟨a0,q0,k0⟩:=wE (i:=0) (ft:=4) (off:=0) (s:=1) o4 (by kernel_rfl) (by kernel_rfl) h
  obtain ⟨a1,q1,k1⟩:=wE (i:=1) (ft:=3) (off:=1) (s:=1) o3 (by kernel_rfl) (by kernel_rfl) h
  obtain ⟨a2,q2,k2⟩:=wE (i:=2) (ft:=23) (off:=2) (s:=1) o23 (by kernel_rfl) (by kernel_rfl) h
  obtain ⟨a3,q3,k3⟩:=wE (i:=3) (ft:=28) (off:=3) (s:=1) o28 (by kernel_rfl) (by kernel_rfl) h
  obtain ⟨a4,q4,k4⟩:=wE (i:=4) (ft:=3) (off:=4) (s:=1) o3 (by kernel_rfl) (by kernel_rfl) h
  have q:=(dM q0 (dM q1 (dM q2 (dM q3 q4 rfl) rfl) rfl) rfl)
  rw [List.drop_zero,List.take_of_length_le (by rw [hl]; exact Nat.le_of_eq (by kernel_rfl))] at q
  exact ⟨Mask.mk a0 a1 a2 a3 a4,q,k0,k1,k2,k3,k4⟩
theorem gTab1:Tryz.prog.globalNamed "internal/strconv.uint64pow10" =some 1:=by kernel_rfl
theorem gTabType1:(Tryz.prog.globals[1]?).map (·.type)=some 232:=by kernel_rfl
theorem gc232:Tryz.prog.cellsOf 232=20:=by kernel_rfl
theorem gce232:Tryz.prog.cellsOf 147=1:=by kernel_rfl
theorem gf1:Rows.topMasksHideUptoRow.laid.filter (fun x=>x.1== "internal/strconv.uint64pow10")= [("internal/strconv.uint64pow10",Lib.tabData .u64 [1,10,100,1000,10000,100000,1000000,10000000,100000000,1000000000,10000000000,100000000000,1000000000000,10000000000000,100000000000000,1000000000000000,10000000000000000,100000000000000000,1000000000000000000,10000000000000000000])]:=by kernel_rfl
theorem table1 {W:World}(h:laidMetH Tryz.prog Rows.topMasksHideUptoRow.laid W):Lib.TabIs Tryz.prog W "internal/strconv.uint64pow10" .u64 [1,10,100,1000,10000,100000,1000000,10000000,100000000,1000000000,10000000000,100000000000,1000000000000,10000000000000,100000000000000,1000000000000000,10000000000000000,100000000000000000,1000000000000000000,10000000000000000000]:=by
  have q:=h.filter (fun x=>x.1== "internal/strconv.uint64pow10")
  rw [gf1] at q
  exact Lib.tabIs_of_head (rest:=[]) gTab1 gTabType1 Tryz.underlying232 Tryz.underlying147 gce232 gc232 q
theorem tabItem1 {W:World}(h:laidMetH Tryz.prog Rows.topMasksHideUptoRow.laid W):(Fz.at 1 0 ((Fl.arr 20 (Fl.int .u64)).f zO)).p (frees [] []) W:=by
  have q:=table1 h
  have c:Cells W ⟨1,0,none⟩ ((Fl.arr 20 (Fl.int .u64)).f zO):=by
    intro i v hv
    rw [Addr.add_none,Nat.zero_add]
    have hi:i<20:=by
      have h1:=(List.getElem?_eq_some_iff.1 hv).1
      exact h1
    have c:=q.cell gTab1 i hi
    have e:v= .int .u64 (([1,10,100,1000,10000,100000,1000000,10000000,100000000,1000000000,10000000000,100000000000,1000000000000,10000000000000,100000000000000,1000000000000000,10000000000000000,100000000000000000,1000000000000000000,10000000000000000000]:List Int).getD i 0):=by
      match i,hi,hv with
      | 0,_,hv=>exact (Option.some.inj hv).symm
      | 1,_,hv=>exact (Option.some.inj hv).symm
      | 2,_,hv=>exact (Option.some.inj hv).symm
      | 3,_,hv=>exact (Option.some.inj hv).symm
      | 4,_,hv=>exact (Option.some.inj hv).symm
      | 5,_,hv=>exact (Option.some.inj hv).symm
      | 6,_,hv=>exact (Option.some.inj hv).symm
      | 7,_,hv=>exact (Option.some.inj hv).symm
      | 8,_,hv=>exact (Option.some.inj hv).symm
      | 9,_,hv=>exact (Option.some.inj hv).symm
      | 10,_,hv=>exact (Option.some.inj hv).symm
      | 11,_,hv=>exact (Option.some.inj hv).symm
      | 12,_,hv=>exact (Option.some.inj hv).symm
      | 13,_,hv=>exact (Option.some.inj hv).symm
      | 14,_,hv=>exact (Option.some.inj hv).symm
      | 15,_,hv=>exact (Option.some.inj hv).symm
      | 16,_,hv=>exact (Option.some.inj hv).symm
      | 17,_,hv=>exact (Option.some.inj hv).symm
      | 18,_,hv=>exact (Option.some.inj hv).symm
      | 19,_,hv=>exact (Option.some.inj hv).symm
    rw [e]; exact c
  refine ⟨by simp [frees,bks],?_,c⟩
  exact World.block_lt_of_cell? _ _ (q.cell gTab1 0 (by decide))
theorem gTab0:Tryz.prog.globalNamed "orangebox/frame.syncs" =some 0:=by kernel_rfl
theorem gTabType0:(Tryz.prog.globals[0]?).map (·.type)=some 165:=by kernel_rfl
theorem gc165:Tryz.prog.cellsOf 165=4:=by kernel_rfl
theorem gce165:Tryz.prog.cellsOf 78=1:=by kernel_rfl
theorem gf0:Rows.topMasksHideUptoRow.laid.filter (fun x=>x.1== "orangebox/frame.syncs")= [("orangebox/frame.syncs",Lib.tabData .u16 [583,1464,2631,3512])]:=by kernel_rfl
theorem table0 {W:World}(h:laidMetH Tryz.prog Rows.topMasksHideUptoRow.laid W):Lib.TabIs Tryz.prog W "orangebox/frame.syncs" .u16 [583,1464,2631,3512]:=by
  have q:=h.filter (fun x=>x.1== "orangebox/frame.syncs")
  rw [gf0] at q
  exact Lib.tabIs_of_head (rest:=[]) gTab0 gTabType0 Tryz.underlying165 Tryz.underlying78 gce165 gc165 q
theorem tabItem0 {W:World}(h:laidMetH Tryz.prog Rows.topMasksHideUptoRow.laid W):(Fz.at 0 0 ((Fl.arr 4 (Fl.int .u16)).f xN)).p (frees [] []) W:=by
  have q:=table0 h
  have c:Cells W ⟨0,0,none⟩ ((Fl.arr 4 (Fl.int .u16)).f xN):=by
    intro i v hv
    rw [Addr.add_none,Nat.zero_add]
    have hi:i<4:=by
      have h1:=(List.getElem?_eq_some_iff.1 hv).1
      exact h1
    have c:=q.cell gTab0 i hi
    have e:v= .int .u16 (([583,1464,2631,3512]:List Int).getD i 0):=by
      match i,hi,hv with
      | 0,_,hv=>exact (Option.some.inj hv).symm
      | 1,_,hv=>exact (Option.some.inj hv).symm
      | 2,_,hv=>exact (Option.some.inj hv).symm
      | 3,_,hv=>exact (Option.some.inj hv).symm
    rw [e]; exact c
  refine ⟨by simp [frees,bks],?_,c⟩
  exact World.block_lt_of_cell? _ _ (q.cell gTab0 0 (by decide))

theorem oB22 {H:Type}{enc:TypeId×Value→H}{w:World}{base:Nat}{sp:Nat→Bool}{held:Bool}:aHv enc Tryz.prog w base sp held Rows.uptoBulk 22 (Rp.sl fP) (fun x=>okL (fun x=>bJ x) x) (fun x=>(x.map fun _=>1).sum):=opensB_sl bulkOf Tryz.underlying22 (by kernel_rfl) (by decide) (opensB_of bulkOf o47)
set_option maxHeartbeats 2000000 in
set_option maxRecDepth 100000 in
theorem contract (H:Type) (enc:TypeId×Value→H) (W:World) (base:Nat) (args:Array Value) (ds gs:List (DataW H)) (before:List MemPlace)
    (hval: ∀(j:Nat) t v,Tryz.f5.params[j]? =some t→args[j]? =some v→Value.okWide Tryz.prog W .any base t v)
    (hW:DataW.Whole enc Tryz.prog Tryz.f5.params.toList Rows.topMasksHideSpec.vars false W args.toList ds gs before) (hL:laidMetH Tryz.prog Rows.topMasksHideUptoRow.laid W) (hk:Rows.uptoSmall H (ds++gs)=true):
    Calls Tryz.prog 5 args W fun e W'=> ∃v,e= .returned v∧Rows.topMasksHideSpec.post enc Tryz.prog Tryz.f5 false true false false W args v W':=by
  have hW':=hW
  obtain ⟨p,q,hA0,hV,rfl,hfz,hnd⟩:=hW
  have hA:DataW.TrodAll enc Tryz.prog W 0 (fun _=>true) true Tryz.f5.params.toList args.toList ds p:=hA0
  rw [Tryz.params5] at hA hval
  obtain ⟨v0,vs0,d0,ds0,p0,q0,hargs,rfl,rfl,h0,r0⟩:=trodAll_cons hA
  obtain ⟨v1,vs1,d1,ds1,p1,q1,rfl,rfl,rfl,h1,r1⟩:=trodAll_cons r0
  obtain ⟨v2,vs2,d2,ds2,p2,q2,rfl,rfl,rfl,h2,r2⟩:=trodAll_cons r1
  obtain ⟨v3,vs3,d3,ds3,p3,q3,rfl,rfl,rfl,h3,r3⟩:=trodAll_cons r2
  obtain ⟨v4,vs4,d4,ds4,p4,q4,rfl,rfl,rfl,h4,r4⟩:=trodAll_cons r3
  obtain ⟨v5,vs5,d5,ds5,p5,q5,rfl,rfl,rfl,h5,r5⟩:=trodAll_cons r4
  obtain ⟨v6,vs6,d6,ds6,p6,q6,rfl,rfl,rfl,h6,r6⟩:=trodAll_cons r5
  obtain ⟨rfl,rfl,rfl⟩:=trodAll_nil r6
  obtain rfl:args= #[v0,v1,v2,v3,v4,v5,v6]:=by cases args; simp_all
  obtain ⟨rfl,rfl⟩:=trodVars_none hV
  have k0:=h0
  have lt0: ∀x ∈ p0,x.block<W.heap.size:=by obtain ⟨m,hm⟩:=k0; exact DataW.trod_lt m _ _ _ hm
  obtain ⟨fu0,hf0⟩:=h0
  obtain ⟨x0,y0,z0,b0⟩:=oB22 fu0 _ _ hf0
  obtain ⟨a0,n0,c0,rfl⟩:=okWide_slice Tryz.underlying22 (hval 0 22 v0 rfl rfl)
  obtain ⟨u0,e0,s0_0⟩:=y0
  obtain rfl:Value.slice a0 n0 c0=u0:=by have y: [Value.slice a0 n0 c0]= [u0]:=e0; simpa using y
  have k1:=h1
  have lt1: ∀x ∈ p1,x.block<W.heap.size:=by obtain ⟨m,hm⟩:=k1; exact DataW.trod_lt m _ _ _ hm
  obtain ⟨fu1,hf1⟩:=h1
  obtain ⟨x1,y1,z1⟩:=o27 fu1 _ _ hf1
  obtain ⟨cs1,rfl⟩:=aIf (t:=27) (by kernel_rfl) (hval 1 27 v1 rfl rfl)
  obtain ⟨u1_1395,u1_1396,u1_1397,e1,s1_0,s1_1,s1_2⟩:=aNj y1
  obtain rfl:cs1= [u1_1395,u1_1396,u1_1397].toArray:=by apply Array.ext'; exact e1
  have k2:=h2
  have lt2: ∀x ∈ p2,x.block<W.heap.size:=by obtain ⟨m,hm⟩:=k2; exact DataW.trod_lt m _ _ _ hm
  obtain ⟨fu2,hf2⟩:=h2
  obtain ⟨x2,y2,z2⟩:=o30 fu2 _ _ hf2
  obtain ⟨cs2,rfl⟩:=aIf (t:=30) (by kernel_rfl) (hval 2 30 v2 rfl rfl)
  obtain ⟨u2_1398,u2_1399,e2,s2_0,s2_1⟩:=aRs y2
  obtain rfl:cs2= [.bool x2.Tails,.int .i64 x2.Days,u2_1398,u2_1399,.int .i64 x2.Least].toArray:=by apply Array.ext'; exact e2
  have k3:=h3
  have lt3: ∀x ∈ p3,x.block<W.heap.size:=by obtain ⟨m,hm⟩:=k3; exact DataW.trod_lt m _ _ _ hm
  obtain ⟨fu3,hf3⟩:=h3
  obtain ⟨x3,y3,z3⟩:=o3 fu3 _ _ hf3
  obtain ⟨a3,rfl⟩:=okWide_int Tryz.underlying3 (hval 3 3 v3 rfl rfl)
  obtain rfl:x3=a3:=by have y: [Value.int .i64 a3]= [Value.int .i64 x3]:=y3; simpa using y.symm
  have k4:=h4
  have lt4: ∀x ∈ p4,x.block<W.heap.size:=by obtain ⟨m,hm⟩:=k4; exact DataW.trod_lt m _ _ _ hm
  obtain ⟨fu4,hf4⟩:=h4
  obtain ⟨x4,y4,z4⟩:=o9 fu4 _ _ hf4
  obtain ⟨a4,rfl⟩:=okWide_string Tryz.underlying9 (hval 4 9 v4 rfl rfl)
  obtain rfl:a4=bs x4:=by have y: [Value.string a4]= [Value.string (bs x4)]:=y4; simpa using y
  have k5:=h5
  have lt5: ∀x ∈ p5,x.block<W.heap.size:=by obtain ⟨m,hm⟩:=k5; exact DataW.trod_lt m _ _ _ hm
  obtain ⟨fu5,hf5⟩:=h5
  obtain ⟨x5,y5,z5⟩:=o9 fu5 _ _ hf5
  obtain ⟨a5,rfl⟩:=okWide_string Tryz.underlying9 (hval 5 9 v5 rfl rfl)
  obtain rfl:a5=bs x5:=by have y: [Value.string a5]= [Value.string (bs x5)]:=y5; simpa using y
  have k6:=h6
  have lt6: ∀x ∈ p6,x.block<W.heap.size:=by obtain ⟨m,hm⟩:=k6; exact DataW.trod_lt m _ _ _ hm
  obtain ⟨fu6,hf6⟩:=h6
  obtain ⟨x6,y6,z6⟩:=o3 fu6 _ _ hf6
  obtain ⟨a6,rfl⟩:=okWide_int Tryz.underlying3 (hval 6 3 v6 rfl rfl)
  obtain rfl:x6=a6:=by have y: [Value.int .i64 a6]= [Value.int .i64 x6]:=y6; simpa using y.symm
  have hb:Rows.uptoBulkAll ([d0,d1,d2,d3,d4,d5,d6]:List (DataW H))≤1048576:=by
    have h:Rows.uptoBulkAll ([d0,d1,d2,d3,d4,d5,d6]++ [])≤1048576:=of_decide_eq_true hk
    rwa [List.append_nil] at h
  simp only [Rows.uptoBulkAll] at hb
  clear hA0
  have HH:=(Hd.fresh0 W).fzs [.sl fP (.slice a0 n0 c0) x0,.sl Rp.str u1_1395 x1.Phases,.sl eF u1_1396 x1.Moves,.sl eU u1_1397 x1.Rules,.sl Rp.str u2_1398 x2.Hide,.sl fH u2_1399 x2.Grains,.at 0 0 ((Fl.arr 4 (Fl.int .u16)).f xN),.at 1 0 ((Fl.arr 20 (Fl.int .u64)).f zO)] ⟨wS s0_0,wS s1_0,wS s1_1,wS s1_2,wS s2_0,wS s2_1,tabItem0 hL,tabItem1 hL,trivial⟩
  refine (L.Ffdw x0 x1 x2 x3 x4 x5 x6 (.slice a0 n0 c0) u1_1395 u1_1396 u1_1397 u2_1398 u2_1399 true (law_Hide x0 x1 x2 x3 x4 x5 x6 z0 z1 z2 z3 z4 z5 z6 (by dsimp only at b0; rw [aUu] at b0; omega)) [] [] W HH).mono fun e W' ⟨he,G⟩=>?_
  subst he
  have bel:Below W.heap.size W W':=G.only.below
  exact ⟨_,rfl,_,_,_,[],_,[],hW',trodAll_mk1 (shut_bool Tryz.underlying4 _),(trodAll_cons_mk (Below.trod laidOut (by kernel_rfl) (of_decide_eq_true (by kernel_rfl)) k0 bel lt0) (trodAll_cons_mk (Below.trod laidOut (by kernel_rfl) (of_decide_eq_true (by kernel_rfl)) k1 bel lt1) (trodAll_cons_mk (Below.trod laidOut (by kernel_rfl) (of_decide_eq_true (by kernel_rfl)) k2 bel lt2) (trodAll_cons_mk (Below.trod laidOut (by kernel_rfl) (of_decide_eq_true (by kernel_rfl)) k3 bel lt3) (trodAll_cons_mk (Below.trod laidOut (by kernel_rfl) (of_decide_eq_true (by kernel_rfl)) k4 bel lt4) (trodAll_cons_mk (Below.trod laidOut (by kernel_rfl) (of_decide_eq_true (by kernel_rfl)) k5 bel lt5) (trodAll_cons_mk (Below.trod laidOut (by kernel_rfl) (of_decide_eq_true (by kernel_rfl)) k6 bel lt6) trodAll_mk0))))))),rfl,bel.frame _,fun h=>by cases h⟩

noncomputable def laidWorld (os:Os):World:=
  {World.holding Tryz.prog os ⟨#[],#[],[]⟩ with heap:=(((((World.holding Tryz.prog os ⟨#[],#[],[]⟩).heap.modify 2 fun
      | .cells _ t frozen=> .cells #[.int .u8 0,.int .u8 1,.int .u8 28,.int .u8 2,.int .u8 29,.int .u8 14,.int .u8 24,.int .u8 3,.int .u8 30,.int .u8 22,.int .u8 20,.int .u8 15,.int .u8 25,.int .u8 17,.int .u8 4,.int .u8 8,.int .u8 31,.int .u8 27,.int .u8 13,.int .u8 23,.int .u8 21,.int .u8 19,.int .u8 16,.int .u8 7,.int .u8 26,.int .u8 12,.int .u8 18,.int .u8 6,.int .u8 11,.int .u8 5,.int .u8 10,.int .u8 9] t frozen
      | o=>o).modify 3 fun
      | .cells _ t frozen=> .cells #[.int .u8 0,.int .u8 1,.int .u8 56,.int .u8 2,.int .u8 57,.int .u8 49,.int .u8 28,.int .u8 3,.int .u8 61,.int .u8 58,.int .u8 42,.int .u8 50,.int .u8 38,.int .u8 29,.int .u8 17,.int .u8 4,.int .u8 62,.int .u8 47,.int .u8 59,.int .u8 36,.int .u8 45,.int .u8 43,.int .u8 51,.int .u8 22,.int .u8 53,.int .u8 39,.int .u8 33,.int .u8 30,.int .u8 24,.int .u8 18,.int .u8 12,.int .u8 5,.int .u8 63,.int .u8 55,.int .u8 48,.int .u8 27,.int .u8 60,.int .u8 41,.int .u8 37,.int .u8 16,.int .u8 46,.int .u8 35,.int .u8 44,.int .u8 21,.int .u8 52,.int .u8 32,.int .u8 23,.int .u8 11,.int .u8 54,.int .u8 26,.int .u8 40,.int .u8 15,.int .u8 34,.int .u8 20,.int .u8 31,.int .u8 10,.int .u8 25,.int .u8 14,.int .u8 19,.int .u8 9,.int .u8 13,.int .u8 8,.int .u8 7,.int .u8 6] t frozen
      | o=>o).modify 1 fun
      | .cells _ t frozen=> .cells #[.int .u64 1,.int .u64 10,.int .u64 100,.int .u64 1000,.int .u64 10000,.int .u64 100000,.int .u64 1000000,.int .u64 10000000,.int .u64 100000000,.int .u64 1000000000,.int .u64 10000000000,.int .u64 100000000000,.int .u64 1000000000000,.int .u64 10000000000000,.int .u64 100000000000000,.int .u64 1000000000000000,.int .u64 10000000000000000,.int .u64 100000000000000000,.int .u64 1000000000000000000,.int .u64 10000000000000000000] t frozen
      | o=>o).modify 0 fun
      | .cells _ t frozen=> .cells #[.int .u16 583,.int .u16 1464,.int .u16 2631,.int .u16 3512] t frozen
      | o=>o)}
theorem laid_met (os:Os):laidMet Tryz.prog Rows.topMasksHideUptoRow.laid ((laidWorld os).forCall (fun _ _=>0) ⟨#[],#[.slice none 0 0,Value.agg #[.slice none 0 0,.slice none 0 0,.slice none 0 0],Value.agg #[.bool false,.int .i64 0,.slice none 0 0,.slice none 0 0,.int .i64 0],.int .i64 0,.string ⟨#[]⟩,.string ⟨#[]⟩,.int .i64 0],[]⟩).memory:=
  laidMet_of_run' 8 (by kernel_rfl) (by kernel_rfl)
theorem reads (os:Os){H:Type}(enc:TypeId×Value→H): ∃places,DataW.whole enc Tryz.prog ((laidWorld os).forCall (fun _ _=>0) ⟨#[],#[.slice none 0 0,Value.agg #[.slice none 0 0,.slice none 0 0,.slice none 0 0],Value.agg #[.bool false,.int .i64 0,.slice none 0 0,.slice none 0 0,.int .i64 0],.int .i64 0,.string ⟨#[]⟩,.string ⟨#[]⟩,.int .i64 0],[]⟩).memory Tryz.f5.params.toList Rows.topMasksHideSpec.vars false #[(.slice none 0 0:Value),Value.agg #[.slice none 0 0,.slice none 0 0,.slice none 0 0],Value.agg #[.bool false,.int .i64 0,.slice none 0 0,.slice none 0 0,.int .i64 0],.int .i64 0,.string ⟨#[]⟩,.string ⟨#[]⟩,.int .i64 0].toList 8=some ([.nil,.agg [.nil,.nil,.nil],.agg [.lit (.bool false),.lit (.int .i64 0),.nil,.nil,.lit (.int .i64 0)],.lit (.int .i64 0),.lit (.string []),.lit (.string []),.lit (.int .i64 0)],[],places):=
  ⟨[],by kernel_rfl⟩

set_option maxRecDepth 100000 in
theorem lifted (os:Os)(started:os.Started)(H:Type)(enc:TypeId×Value→H)(F:Stop.Interp):
    ReturnsInHanded {} Tryz.checked os 5 .any ((Rows.OpenSpec.upto Rows.topMasksHideSpec).preRow enc Tryz.prog Tryz.f5 Rows.topMasksHideUptoRow.domain false Rows.topMasksHideUptoRow.laid) (((Rows.OpenSpec.upto Rows.topMasksHideSpec).at F).post enc Tryz.prog Tryz.f5 false true false false):=by
  obtain ⟨places,hx⟩:=reads os enc
  refine returnsInHanded_of_row (C:=Tryz.checked) (s:=(Rows.OpenSpec.upto Rows.topMasksHideSpec)) own started (by kernel_rfl) Tryz.func5
    (witness_row_at (enc:=enc) (C:=Tryz.checked) false (laidWorld os) #[.slice none 0 0,Value.agg #[.slice none 0 0,.slice none 0 0,.slice none 0 0],Value.agg #[.bool false,.int .i64 0,.slice none 0 0,.slice none 0 0,.int .i64 0],.int .i64 0,.string ⟨#[]⟩,.string ⟨#[]⟩,.int .i64 0] rfl (by kernel_rfl) (by kernel_rfl) (by kernel_rfl)
      (OpenSpec.preRow_of_cond 8 hx (by kernel_rfl) (fun k hk=>by cases hk; kernel_rfl) (by kernel_rfl) (laid_met os))) ?_
  intro W base args ds gs before hval hW _ hcond _ hL _ _
  exact contract H enc W base args ds gs before hval hW hL (hcond _ rfl)

theorem said:Rows.TopMasksHideUptoSaid:=
  OpenClaim.holds_of_cond 5 Tryz.f5 rfl rfl rfl rfl rfl rfl rfl ⟨rfl,rfl,rfl,rfl,rfl⟩ rfl rfl rfl rfl rfl (by kernel_rfl) Tryz.func5 closedF
    (of_decide_eq_true (by kernel_rfl)) (by unfold Func.isWrapper; first | (rw [if_pos (by decide+kernel)]; kernel_rfl) | (rw [if_neg (by decide+kernel)]; exact ⟨rfl,rfl⟩))
    (fun os started H enc _ F=>by rw [OpenClaim.pre_eq_preRow]; exact lifted os started H enc F)
theorem plainP (f:FuncId)(fn:Func)(hf:Tryz.pinned.checked.prog.funcNamed "orangebox/orangeboxtop.TopMasksHide" =some f)(hfn:Tryz.pinned.checked.prog.funcs[f]? =some fn):
    false=Tryz.pinned.checked.prog.looks []∧ ∀(j:Nat) t,fn.params[j]? =some t→Tryz.pinned.checked.prog.wantsStandIn t=false:=by
  obtain rfl:f=5:=Option.some.inj ((show Tryz.prog.funcNamed "orangebox/orangeboxtop.TopMasksHide" =some 5 by kernel_rfl).symm.trans hf) |>.symm
  obtain rfl:fn=Tryz.f5:=(Option.some.inj (Tryz.func5.symm.trans hfn)).symm
  refine ⟨looksF,fun j t ht=>?_⟩
  rw [Tryz.params5] at ht
  have hall:(#[22,27,30,3,9,9,3]:Array TypeId).toList.all (fun t=> !Tryz.prog.wantsStandIn t)=true:=by kernel_rfl
  have q:=List.all_eq_true.1 hall t (Array.mem_toList_iff.2 (Array.mem_of_getElem? ht))
  have q2:Tryz.prog.wantsStandIn t=false:=by simpa using q
  exact q2
theorem card:Rows.TopMasksHideUptoCardSaid:=
  Claim7.holds_tied_plain_at .later [] _ _ _ _ said (fun _ h=>by cases h) (by kernel_rfl) (fun _ h=>by cases h) topMasksHideUpto_row_tie rfl ⟨rfl,rfl⟩ (by kernel_rfl) rfl plainP goesF
end Go.Proofs.YthllgjnlmjpinaaGreatDoor.topMasksHide
