/- The tied card: for every input the law's function returns true and each argument reads as it did. Condition: the tables of math/bits and internal/strconv hold what the program's text lays there. What is read is of bulk at most 1048576. -/
import Derived.Test.YtbjhondbheijiaaDoorCards
import Derived.Test.YtbjhondbheijiaaDoorTie
import Derived.Lib.LaidTab
import Derived.LaidSub
import Derived.WalkKit
import Derived.ProofKit
import Derived.OpenShut
import Derived.Deep.DeepHandedRow
import Derived.SizedLaws
import Derived.Test.YtbjhondbheijiaaDoorRV4
import Derived.Test.YtbjhondbheijiaaDoorRNb
import Derived.Test.YtbjhondbheijiaaDoorOpxB
namespace Go.Proofs.YtbjhondbheijiaaDoor.fleetRowsMatchSpec
open Go.ChangeShapes Go.WideShapes Go.ChangeAt Go.RowKit
open Go.OB Go.Lf
theorem one_le {H : Type} (d : DataW H) : 1 ≤ Rows.uptoBulk d := by
  cases d with
  | lit l => cases l <;> simp [Rows.uptoBulk]
  | nil => simp [Rows.uptoBulk]
  | ptr d => simp [Rows.uptoBulk]
  | slice elems spare => simp [Rows.uptoBulk]
  | agg parts => simp [Rows.uptoBulk]
  | iface t d => simp [Rows.uptoBulk]
  | map entries => simp [Rows.uptoBulk]
  | held h => simp [Rows.uptoBulk]
theorem all_sum {H : Type} (l : List (DataW H)) : Rows.uptoBulkAll l = (l.map Rows.uptoBulk).sum := by
  induction l with
  | nil => simp [Rows.uptoBulkAll]
  | cons x r ih => simp only [Rows.uptoBulkAll, List.map_cons, List.sum_cons, ih]
theorem bulkOf {H : Type} : BulkOf (Rows.uptoBulk (H := H)) :=
  ⟨fun s => by simp [Rows.uptoBulk], one_le, fun es sp => by simp only [Rows.uptoBulk, all_sum]; omega, fun ps => by simp only [Rows.uptoBulk, all_sum]; omega⟩
theorem laidOut : laidOutB Tryd.prog = true := by kernel_rfl
theorem own : ownKnob Tryd.prog.godebug = none := by kernel_rfl
theorem o9 {H : Type} {enc : TypeId × Value → H} {w : World} {base : Nat} {sp : Nat → Bool} {held : Bool} : OpensB enc Tryd.prog w base sp held Rows.uptoBulk 9 Rp.str (fun x => okS x) (fun x => x.length) := opensB_str bulkOf Tryd.underlying9
theorem o4 {H : Type} {enc : TypeId × Value → H} {w : World} {base : Nat} {sp : Nat → Bool} {held : Bool} : OpensB enc Tryd.prog w base sp held Rows.uptoBulk 4 Rp.bool (fun x => True) (fun x => 1) := opensB_bool bulkOf Tryd.underlying4
theorem o3 {H : Type} {enc : TypeId × Value → H} {w : World} {base : Nat} {sp : Nat → Bool} {held : Bool} : OpensB enc Tryd.prog w base sp held Rows.uptoBulk 3 (Rp.int .i64) (fun x => i64 x) (fun x => 1) := opensB_i64 bulkOf Tryd.underlying3
theorem o23 {H : Type} {enc : TypeId × Value → H} {w : World} {base : Nat} {sp : Nat → Bool} {held : Bool} : OpensB enc Tryd.prog w base sp held Rows.uptoBulk 23 (Rp.sl (Rp.int .i64)) (fun x => okL (fun x => i64 x) x) (fun x => (x.map fun x => 1).sum) := opensB_sl bulkOf Tryd.underlying23 (by kernel_rfl) (by decide) o3
theorem o25 {H : Type} {enc : TypeId × Value → H} {w : World} {base : Nat} {sp : Nat → Bool} {held : Bool} : OpensB enc Tryd.prog w base sp held Rows.uptoBulk 25 rFleetRow (fun x => okFleetRow x) (fun x => (x.Key.length + (1 + (1 + (x.Events.map fun x => 1).sum)))) := by
  intro fuel cs x h
  have hl := trod_len (i := 0) (ft := 9) (off := 0) (by kernel_rfl) h
  have hs := parts_le bulkOf x.1
  obtain ⟨a0, q0, k0, s0⟩ := partB (i := 0) (j := 1) (ft := 9) (off := 0) (s := 1) rfl o9 (by kernel_rfl) (by kernel_rfl) h
  obtain ⟨a1, q1, k1, s1⟩ := partB (i := 1) (j := 2) (ft := 4) (off := 1) (s := 1) rfl o4 (by kernel_rfl) (by kernel_rfl) h
  obtain ⟨a2, q2, k2, s2⟩ := partB (i := 2) (j := 3) (ft := 3) (off := 2) (s := 1) rfl o3 (by kernel_rfl) (by kernel_rfl) h
  obtain ⟨a3, q3, k3, s3⟩ := partB (i := 3) (j := 4) (ft := 23) (off := 3) (s := 1) rfl o23 (by kernel_rfl) (by kernel_rfl) h
  have q := (pair_rd q0 (pair_rd q1 (pair_rd q2 q3 rfl) rfl) rfl)
  rw [List.drop_zero, List.take_of_length_le (by rw [hl]; exact Nat.le_of_eq (by kernel_rfl))] at q
  exact ⟨FleetRow.mk a0 a1 a2 a3, q, ⟨k0, k1, k2, k3⟩, by dsimp only at *; omega⟩
theorem o22 {H : Type} {enc : TypeId × Value → H} {w : World} {base : Nat} {sp : Nat → Bool} {held : Bool} : OpensB enc Tryd.prog w base sp held Rows.uptoBulk 22 (Rp.sl rFleetRow) (fun x => okL (fun x => okFleetRow x) x) (fun x => (x.map fun x => (x.Key.length + (1 + (1 + (x.Events.map fun x => 1).sum)))).sum) := opensB_sl bulkOf Tryd.underlying22 (by kernel_rfl) (by decide) o25
theorem gTab0 : Tryd.prog.globalNamed "internal/strconv.uint64pow10" = some 0 := by kernel_rfl
theorem gTabType0 : (Tryd.prog.globals[0]?).map (·.type) = some 131 := by kernel_rfl
theorem gc131 : Tryd.prog.cellsOf 131 = 20 := by kernel_rfl
theorem gce131 : Tryd.prog.cellsOf 119 = 1 := by kernel_rfl
theorem gf0 : Rows.fleetRowsMatchSpecUptoRow.laid.filter (fun x => x.1 == "internal/strconv.uint64pow10") = [("internal/strconv.uint64pow10", Lib.tabData .u64 [1, 10, 100, 1000, 10000, 100000, 1000000, 10000000, 100000000, 1000000000, 10000000000, 100000000000, 1000000000000, 10000000000000, 100000000000000, 1000000000000000, 10000000000000000, 100000000000000000, 1000000000000000000, 10000000000000000000])] := by kernel_rfl
theorem table0 {W : World} (h : laidMetH Tryd.prog Rows.fleetRowsMatchSpecUptoRow.laid W) : Lib.TabIs Tryd.prog W "internal/strconv.uint64pow10" .u64 [1, 10, 100, 1000, 10000, 100000, 1000000, 10000000, 100000000, 1000000000, 10000000000, 100000000000, 1000000000000, 10000000000000, 100000000000000, 1000000000000000, 10000000000000000, 100000000000000000, 1000000000000000000, 10000000000000000000] := by
  have q := h.filter (fun x => x.1 == "internal/strconv.uint64pow10")
  rw [gf0] at q
  exact Lib.tabIs_of_head (rest := []) gTab0 gTabType0 Tryd.underlying131 Tryd.underlying119 gce131 gc131 q
theorem tabItem0 {W : World} (h : laidMetH Tryd.prog Rows.fleetRowsMatchSpecUptoRow.laid W) : (Fz.at 0 0 ((Fl.arr 20 (Fl.int .u64)).f G_internal_strconv_uint64pow10)).p (frees [] []) W := by
  have q := table0 h
  have c : Cells W ⟨0, 0, none⟩ ((Fl.arr 20 (Fl.int .u64)).f G_internal_strconv_uint64pow10) := by
    intro i v hv
    rw [Addr.add_none, Nat.zero_add]
    have hi : i < 20 := by
      have h1 := (List.getElem?_eq_some_iff.1 hv).1
      exact h1
    have c := q.cell gTab0 i hi
    have e : v = .int .u64 (([1, 10, 100, 1000, 10000, 100000, 1000000, 10000000, 100000000, 1000000000, 10000000000, 100000000000, 1000000000000, 10000000000000, 100000000000000, 1000000000000000, 10000000000000000, 100000000000000000, 1000000000000000000, 10000000000000000000] : List Int).getD i 0) := by
      match i, hi, hv with
      | 0, _, hv => exact (Option.some.inj hv).symm
      | 1, _, hv => exact (Option.some.inj hv).symm
      | 2, _, hv => exact (Option.some.inj hv).symm
      | 3, _, hv => exact (Option.some.inj hv).symm
      | 4, _, hv => exact (Option.some.inj hv).symm
      | 5, _, hv => exact (Option.some.inj hv).symm
      | 6, _, hv => exact (Option.some.inj hv).symm
      | 7, _, hv => exact (Option.some.inj hv).symm
      | 8, _, hv => exact (Option.some.inj hv).symm
      | 9, _, hv => exact (Option.some.inj hv).symm
      | 10, _, hv => exact (Option.some.inj hv).symm
      | 11, _, hv => exact (Option.some.inj hv).symm
      | 12, _, hv => exact (Option.some.inj hv).symm
      | 13, _, hv => exact (Option.some.inj hv).symm
      | 14, _, hv => exact (Option.some.inj hv).symm
      | 15, _, hv => exact (Option.some.inj hv).symm
      | 16, _, hv => exact (Option.some.inj hv).symm
      | 17, _, hv => exact (Option.some.inj hv).symm
      | 18, _, hv => exact (Option.some.inj hv).symm
      | 19, _, hv => exact (Option.some.inj hv).symm
    rw [e]; exact c
  refine ⟨by simp [frees, bks], ?_, c⟩
  exact World.block_lt_of_cell? _ _ (q.cell gTab0 0 (by decide))
set_option maxHeartbeats 2000000 in
set_option maxRecDepth 100000 in
theorem contract (H : Type) (enc : TypeId × Value → H) (W : World) (base : Nat) (args : Array Value) (ds gs : List (DataW H)) (before : List MemPlace)
    (hval : ∀ (j : Nat) t v, Tryd.f3.params[j]? = some t → args[j]? = some v → Value.okWide Tryd.prog W .any base t v)
    (hW : DataW.Whole enc Tryd.prog Tryd.f3.params.toList Rows.fleetRowsMatchSpecSpec.vars false W args.toList ds gs before) (hL : laidMetH Tryd.prog Rows.fleetRowsMatchSpecUptoRow.laid W) (hk : Rows.uptoSmall H (ds ++ gs) = true) :
    Calls Tryd.prog 3 args W fun e W' => ∃ v, e = .returned v ∧ Rows.fleetRowsMatchSpecSpec.post enc Tryd.prog Tryd.f3 false true false false W args v W' := by
  have hW' := hW
  obtain ⟨p, q, hA0, hV, rfl, hfz, hnd⟩ := hW
  have hA : DataW.TrodAll enc Tryd.prog W 0 (fun _ => true) true Tryd.f3.params.toList args.toList ds p := hA0
  rw [Tryd.params3] at hA hval
  obtain ⟨v0, vs0, d0, ds0, p0, q0, hargs, rfl, rfl, h0, r0⟩ := trodAll_cons hA
  obtain ⟨v1, vs1, d1, ds1, p1, q1, rfl, rfl, rfl, h1, r1⟩ := trodAll_cons r0
  obtain ⟨v2, vs2, d2, ds2, p2, q2, rfl, rfl, rfl, h2, r2⟩ := trodAll_cons r1
  obtain ⟨rfl, rfl, rfl⟩ := trodAll_nil r2
  obtain rfl : args = #[v0, v1, v2] := by cases args; simp_all
  obtain ⟨rfl, rfl⟩ := trodVars_none hV
  have k0 := h0
  have lt0 : ∀ x ∈ p0, x.block < W.heap.size := by obtain ⟨m, hm⟩ := k0; exact DataW.trod_lt m _ _ _ hm
  obtain ⟨fu0, hf0⟩ := h0
  obtain ⟨x0, y0, z0, b0⟩ := o22 fu0 _ _ hf0
  obtain ⟨a0, n0, c0, rfl⟩ := okWide_slice Tryd.underlying22 (hval 0 22 v0 rfl rfl)
  obtain ⟨u0, e0, s0_0⟩ := y0
  obtain rfl : Value.slice a0 n0 c0 = u0 := by have y : [Value.slice a0 n0 c0] = [u0] := e0; simpa using y
  have k1 := h1
  have lt1 : ∀ x ∈ p1, x.block < W.heap.size := by obtain ⟨m, hm⟩ := k1; exact DataW.trod_lt m _ _ _ hm
  obtain ⟨fu1, hf1⟩ := h1
  obtain ⟨x1, y1, z1, b1⟩ := o22 fu1 _ _ hf1
  obtain ⟨a1, n1, c1, rfl⟩ := okWide_slice Tryd.underlying22 (hval 1 22 v1 rfl rfl)
  obtain ⟨u1, e1, s1_0⟩ := y1
  obtain rfl : Value.slice a1 n1 c1 = u1 := by have y : [Value.slice a1 n1 c1] = [u1] := e1; simpa using y
  have k2 := h2
  have lt2 : ∀ x ∈ p2, x.block < W.heap.size := by obtain ⟨m, hm⟩ := k2; exact DataW.trod_lt m _ _ _ hm
  obtain ⟨fu2, hf2⟩ := h2
  obtain ⟨x2, y2, z2, b2⟩ := o3 fu2 _ _ hf2
  obtain ⟨a2, rfl⟩ := okWide_int Tryd.underlying3 (hval 2 3 v2 rfl rfl)
  obtain rfl : x2 = a2 := by have y : [Value.int .i64 a2] = [Value.int .i64 x2] := y2; simpa using y.symm
  have hb : Rows.uptoBulkAll ([d0, d1, d2] : List (DataW H)) ≤ 1048576 := by
    have h : Rows.uptoBulkAll ([d0, d1, d2] ++ []) ≤ 1048576 := of_decide_eq_true hk
    rwa [List.append_nil] at h
  simp only [Rows.uptoBulkAll] at hb
  clear hA0
  have HH := (Hd.fresh0 W).fzs [.sl rFleetRow (.slice a0 n0 c0) x0, .sl rFleetRow (.slice a1 n1 c1) x1, .at 0 0 ((Fl.arr 20 (Fl.int .u64)).f G_internal_strconv_uint64pow10)] ⟨slf_all s0_0, slf_all s1_0, tabItem0 hL, trivial⟩
  refine (L.F_law9_FleetRowsMatchSpec_w x0 x1 x2 (.slice a0 n0 c0) (.slice a1 n1 c1) true (law_Rows x0 x1 x2 z0 z1 z2 (Nat.le_trans (bulk_k _) (by dsimp only at b0 b1; omega)) (Nat.le_trans (bulk_k _) (by dsimp only at b0 b1; omega))) [] [] W HH).mono fun e W' ⟨he, G⟩ => ?_
  subst he
  have bel : Below W.heap.size W W' := G.only.below
  exact ⟨_, rfl, _, _, _, [], _, [], hW', trodAll_mk1 (shut_bool Tryd.underlying4 _), (trodAll_cons_mk (Below.trod laidOut (by kernel_rfl) (of_decide_eq_true (by kernel_rfl)) k0 bel lt0) (trodAll_cons_mk (Below.trod laidOut (by kernel_rfl) (of_decide_eq_true (by kernel_rfl)) k1 bel lt1) (trodAll_cons_mk (Below.trod laidOut (by kernel_rfl) (of_decide_eq_true (by kernel_rfl)) k2 bel lt2) trodAll_mk0))), rfl, bel.frame _, fun h => by cases h⟩

/-- A world for the witness. -/
noncomputable def laidWorld (os : Os) : World :=
  { World.holding Tryd.prog os ⟨#[], #[], []⟩ with heap := ((((World.holding Tryd.prog os ⟨#[], #[], []⟩).heap.modify 2 fun
      | .cells _ t frozen => .cells #[.int .u8 0, .int .u8 1, .int .u8 28, .int .u8 2, .int .u8 29, .int .u8 14, .int .u8 24, .int .u8 3, .int .u8 30, .int .u8 22, .int .u8 20, .int .u8 15, .int .u8 25, .int .u8 17, .int .u8 4, .int .u8 8, .int .u8 31, .int .u8 27, .int .u8 13, .int .u8 23, .int .u8 21, .int .u8 19, .int .u8 16, .int .u8 7, .int .u8 26, .int .u8 12, .int .u8 18, .int .u8 6, .int .u8 11, .int .u8 5, .int .u8 10, .int .u8 9] t frozen
      | o => o).modify 3 fun
      | .cells _ t frozen => .cells #[.int .u8 0, .int .u8 1, .int .u8 56, .int .u8 2, .int .u8 57, .int .u8 49, .int .u8 28, .int .u8 3, .int .u8 61, .int .u8 58, .int .u8 42, .int .u8 50, .int .u8 38, .int .u8 29, .int .u8 17, .int .u8 4, .int .u8 62, .int .u8 47, .int .u8 59, .int .u8 36, .int .u8 45, .int .u8 43, .int .u8 51, .int .u8 22, .int .u8 53, .int .u8 39, .int .u8 33, .int .u8 30, .int .u8 24, .int .u8 18, .int .u8 12, .int .u8 5, .int .u8 63, .int .u8 55, .int .u8 48, .int .u8 27, .int .u8 60, .int .u8 41, .int .u8 37, .int .u8 16, .int .u8 46, .int .u8 35, .int .u8 44, .int .u8 21, .int .u8 52, .int .u8 32, .int .u8 23, .int .u8 11, .int .u8 54, .int .u8 26, .int .u8 40, .int .u8 15, .int .u8 34, .int .u8 20, .int .u8 31, .int .u8 10, .int .u8 25, .int .u8 14, .int .u8 19, .int .u8 9, .int .u8 13, .int .u8 8, .int .u8 7, .int .u8 6] t frozen
      | o => o).modify 0 fun
      | .cells _ t frozen => .cells #[.int .u64 1, .int .u64 10, .int .u64 100, .int .u64 1000, .int .u64 10000, .int .u64 100000, .int .u64 1000000, .int .u64 10000000, .int .u64 100000000, .int .u64 1000000000, .int .u64 10000000000, .int .u64 100000000000, .int .u64 1000000000000, .int .u64 10000000000000, .int .u64 100000000000000, .int .u64 1000000000000000, .int .u64 10000000000000000, .int .u64 100000000000000000, .int .u64 1000000000000000000, .int .u64 10000000000000000000] t frozen
      | o => o) }
theorem laid_met (os : Os) : laidMet Tryd.prog Rows.fleetRowsMatchSpecUptoRow.laid ((laidWorld os).forCall (fun _ _ => 0) ⟨#[], #[.slice none 0 0, .slice none 0 0, .int .i64 0], []⟩).memory :=
  laidMet_of_run' 8 (by kernel_rfl) (by kernel_rfl)
theorem reads (os : Os) {H : Type} (enc : TypeId × Value → H) : ∃ places, DataW.whole enc Tryd.prog ((laidWorld os).forCall (fun _ _ => 0) ⟨#[], #[.slice none 0 0, .slice none 0 0, .int .i64 0], []⟩).memory Tryd.f3.params.toList Rows.fleetRowsMatchSpecSpec.vars false #[(.slice none 0 0 : Value), .slice none 0 0, .int .i64 0].toList 8 = some ([.nil, .nil, .lit (.int .i64 0)], [], places) :=
  ⟨[], by kernel_rfl⟩

set_option maxRecDepth 100000 in
theorem lifted (os : Os) (started : os.Started) (H : Type) (enc : TypeId × Value → H) (F : Stop.Interp) :
    ReturnsInHanded {} Tryd.checked os 3 .any ((Rows.OpenSpec.upto Rows.fleetRowsMatchSpecSpec).preRow enc Tryd.prog Tryd.f3 Rows.fleetRowsMatchSpecUptoRow.domain false Rows.fleetRowsMatchSpecUptoRow.laid) (((Rows.OpenSpec.upto Rows.fleetRowsMatchSpecSpec).at F).post enc Tryd.prog Tryd.f3 false true false false) := by
  obtain ⟨places, hx⟩ := reads os enc
  refine returnsInHanded_of_row (C := Tryd.checked) (s := (Rows.OpenSpec.upto Rows.fleetRowsMatchSpecSpec)) own started (by kernel_rfl) Tryd.func3
    (witness_row_at (enc := enc) (C := Tryd.checked) false (laidWorld os) #[.slice none 0 0, .slice none 0 0, .int .i64 0] rfl (by kernel_rfl) (by kernel_rfl) (by kernel_rfl)
      (OpenSpec.preRow_of_cond 8 hx (by kernel_rfl) (fun k hk => by cases hk; kernel_rfl) (by kernel_rfl) (laid_met os))) ?_
  intro W base args ds gs before hval hW _ hcond _ hL _ _
  exact contract H enc W base args ds gs before hval hW hL (hcond _ rfl)

theorem said : Rows.FleetRowsMatchSpecUptoSaid :=
  OpenClaim.holds_of_cond 3 Tryd.f3 rfl rfl rfl rfl rfl rfl rfl ⟨rfl, rfl, rfl, rfl, rfl⟩ rfl rfl rfl rfl rfl (by kernel_rfl) Tryd.func3 (by kernel_rfl)
    (of_decide_eq_true (by kernel_rfl)) (by unfold Func.isWrapper; first | (rw [if_pos (by decide +kernel)]; kernel_rfl) | (rw [if_neg (by decide +kernel)]; exact ⟨rfl, rfl⟩))
    (fun os started H enc _ F => by rw [OpenClaim.pre_eq_preRow]; exact lifted os started H enc F)
theorem plainP (f : FuncId) (fn : Func) (hf : Tryd.pinned.checked.prog.funcNamed "orangebox/orangeboxlaw9.FleetRowsMatchSpec" = some f) (hfn : Tryd.pinned.checked.prog.funcs[f]? = some fn) :
    false = Tryd.pinned.checked.prog.looks [] ∧ ∀ (j : Nat) t, fn.params[j]? = some t → Tryd.pinned.checked.prog.wantsStandIn t = false := by
  obtain rfl : f = 3 := Option.some.inj ((show Tryd.prog.funcNamed "orangebox/orangeboxlaw9.FleetRowsMatchSpec" = some 3 by kernel_rfl).symm.trans hf) |>.symm
  obtain rfl : fn = Tryd.f3 := (Option.some.inj (Tryd.func3.symm.trans hfn)).symm
  refine ⟨by kernel_rfl, fun j t ht => ?_⟩
  rw [Tryd.params3] at ht
  have hall : (#[22, 22, 3] : Array TypeId).toList.all (fun t => !Tryd.prog.wantsStandIn t) = true := by kernel_rfl
  have q := List.all_eq_true.1 hall t (Array.mem_toList_iff.2 (Array.mem_of_getElem? ht))
  have q2 : Tryd.prog.wantsStandIn t = false := by simpa using q
  exact q2
theorem card : Rows.FleetRowsMatchSpecUptoCardSaid :=
  Claim7.holds_tied_plain_at .later [] _ _ _ _ said (fun _ h => by cases h) (by kernel_rfl) (fun _ h => by cases h) fleetRowsMatchSpecUpto_row_tie rfl ⟨rfl, rfl⟩ (by kernel_rfl) rfl plainP (by kernel_rfl)
end Go.Proofs.YtbjhondbheijiaaDoor.fleetRowsMatchSpec
