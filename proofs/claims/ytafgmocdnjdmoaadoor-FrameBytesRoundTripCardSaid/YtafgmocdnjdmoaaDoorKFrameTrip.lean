/- The tied card of the law FrameTrip: for every input the law's function returns true and each argument reads as it did. Condition: the table orangebox/frame.syncs holds what the program's text lays there. -/
import Derived.Test.YtafgmocdnjdmoaaDoorCards
import Derived.Test.YtafgmocdnjdmoaaDoorTie
import Derived.WalkKit
import Derived.ProofKit
import Derived.OpenShut
import Derived.Deep.DeepHandedRow
import Derived.Lib.LaidTab
import Derived.SizedLaws
import Derived.Test.YtafgmocdnjdmoaaDoorAKTrip
import Derived.Test.YtafgmocdnjdmoaaDoorOpf
namespace Go.Proofs.YtafgmocdnjdmoaaDoor.frameBytesRoundTrip
open Go.ChangeShapes Go.WideShapes Go.ChangeAt Go.RowKit
open Go.OB Go.Fr1
theorem laidOut : laidOutB Tryd.prog = true := by kernel_rfl
theorem own : ownKnob Tryd.prog.godebug = none := by kernel_rfl
theorem gTab : Tryd.prog.globalNamed "orangebox/frame.syncs" = some 0 := by kernel_rfl
theorem gTabType : (Tryd.prog.globals[0]?).map (·.type) = some 111 := by kernel_rfl
theorem cells111 : Tryd.prog.cellsOf 111 = 4 := by kernel_rfl
theorem cells23 : Tryd.prog.cellsOf 23 = 1 := by kernel_rfl
/-- The table that the row lists. -/
theorem table {W : World} (h : laidMetH Tryd.prog Rows.frameBytesRoundTripRow.laid W) : Lib.TabIs Tryd.prog W "orangebox/frame.syncs" .u16 [583, 1464, 2631, 3512] :=
  Lib.tabIs_of_head (rest := []) gTab gTabType Tryd.underlying111 Tryd.underlying23 cells23 cells111 h
theorem tabCells {W : World} (h : laidMetH Tryd.prog Rows.frameBytesRoundTripRow.laid W) : Cells W ⟨0, 0, none⟩ (wds tab) := by
  have q := table h
  intro i v hv
  rw [Addr.add_none, Nat.zero_add]
  have hi : i < 4 := by
    have := (List.getElem?_eq_some_iff.1 hv).1
    rw [wds_length] at this
    exact this
  have c := q.cell gTab i hi
  have e : v = .int .u16 ([583, 1464, 2631, 3512].getD i 0) := by
    match i, hi, hv with
    | 0, _, hv => exact (Option.some.inj hv).symm
    | 1, _, hv => exact (Option.some.inj hv).symm
    | 2, _, hv => exact (Option.some.inj hv).symm
    | 3, _, hv => exact (Option.some.inj hv).symm
  rw [e]; exact c
theorem heapPos {W : World} (h : Cells W ⟨0, 0, none⟩ (wds tab)) : 0 < W.heap.size := by
  have := World.block_lt_of_cell? _ _ (Cells.get0 h (i := 0) (v := .int .u16 583) rfl)
  exact this

set_option maxRecDepth 100000 in
theorem contract (H : Type) (enc : TypeId × Value → H) (W : World) (base : Nat) (args : Array Value) (ds gs : List (DataW H)) (before : List MemPlace)
    (hval : ∀ (j : Nat) t v, Tryd.f8.params[j]? = some t → args[j]? = some v → Value.okWide Tryd.prog W .any base t v)
    (hW : DataW.Whole enc Tryd.prog Tryd.f8.params.toList Rows.frameBytesRoundTripSpec.vars false W args.toList ds gs before) (hL : laidMetH Tryd.prog Rows.frameBytesRoundTripRow.laid W) (hsz : (DataW.weightsEach Tryd.prog (Tryd.f8.params.toList ++ (OpenSpec.ofChange Rows.frameBytesRoundTripSpec).bare.plain.varTypes Tryd.prog) (ds ++ gs)).all (· ≤ reachBytes) = true) :
    Calls Tryd.prog 8 args W fun e W' => ∃ v, e = .returned v ∧ Rows.frameBytesRoundTripSpec.post enc Tryd.prog Tryd.f8 false true false false W args v W' := by
  have hW' := hW
  obtain ⟨p, q, hA0, hV, rfl, hfz, hnd⟩ := hW
  have hA : DataW.TrodAll enc Tryd.prog W 0 (fun _ => true) true Tryd.f8.params.toList args.toList ds p := hA0
  rw [Tryd.params8] at hA hval
  obtain ⟨v0, vs0, d0, ds0, p0, q0, hargs, rfl, rfl, h0, r0⟩ := trodAll_cons hA
  obtain ⟨v1, vs1, d1, ds1, p1, q1, rfl, rfl, rfl, h1, r1⟩ := trodAll_cons r0
  obtain ⟨rfl, rfl, rfl⟩ := trodAll_nil r1
  obtain rfl : args = #[v0, v1] := by cases args; simp_all
  obtain ⟨rfl, rfl⟩ := trodVars_none hV
  have k0 := h0
  have lt0 : ∀ x ∈ p0, x.block < W.heap.size := by obtain ⟨m, hm⟩ := k0; exact DataW.trod_lt m _ _ _ hm
  obtain ⟨z0, rfl, l0, c0⟩ := open_words Tryd.underlying25 Tryd.underlying23 (by kernel_rfl) (by kernel_rfl) (hval 0 25 v0 rfl rfl) h0
  have k1 := h1
  have lt1 : ∀ x ∈ p1, x.block < W.heap.size := by obtain ⟨m, hm⟩ := k1; exact DataW.trod_lt m _ _ _ hm
  obtain ⟨z1, m1, l1, s1, c1, u1⟩ := open_bytes Tryd.underlying22 Tryd.underlying5 (by kernel_rfl) (hval 1 22 v1 rfl rfl) h1
  have B1 : m1 ≤ 140737488351232 := by
    rcases u1 with h | ⟨el, sp, rfl, hle⟩
    · omega
    · have q := sized_slice hsz (j := 1) (t := 22) rfl rfl Tryd.underlying22
      rw [show Tryd.prog.bytesOf 5 = 1 by kernel_rfl] at q
      have e : reachBytes = 140737488351232 := by decide
      omega
  clear hA0
  have tc := tabCells hL
  have hp := heapPos tc
  refine (FrameTrip_c z0 l0 c0 _ z1 m1 l1 c1 B1 W tc hp s1).mono fun e W' ⟨he, bel⟩ => ?_
  subst he
  exact ⟨_, rfl, _, _, _, [], _, [], hW', trodAll_mk1 (shut_bool Tryd.underlying4 _), (trodAll_cons_mk (Below.trod laidOut (by kernel_rfl) (of_decide_eq_true (by kernel_rfl)) k0 bel lt0) (trodAll_cons_mk (Below.trod laidOut (by kernel_rfl) (of_decide_eq_true (by kernel_rfl)) k1 bel lt1) trodAll_mk0)), rfl, bel.frame _, fun h => by cases h⟩

/-- A world for the witness: the settled one, the table (block 0) holding what its initialiser lays. -/
noncomputable def laidWorld (os : Os) : World :=
  { World.holding Tryd.prog os ⟨#[], #[], []⟩ with heap := (World.holding Tryd.prog os ⟨#[], #[], []⟩).heap.modify 0 fun
      | .cells _ t frozen => .cells #[.int .u16 583, .int .u16 1464, .int .u16 2631, .int .u16 3512] t frozen
      | o => o }
theorem laid_met (os : Os) : laidMet Tryd.prog Rows.frameBytesRoundTripRow.laid ((laidWorld os).forCall (fun _ _ => 0) ⟨#[], #[Value.agg (List.replicate 64 (Value.int IntKind.u16 0)).toArray, .slice none 0 0], []⟩).memory :=
  laidMet_of_run' 8 (by kernel_rfl) (by kernel_rfl)
theorem reads (os : Os) {H : Type} (enc : TypeId × Value → H) : ∃ places, DataW.whole enc Tryd.prog ((laidWorld os).forCall (fun _ _ => 0) ⟨#[], #[Value.agg (List.replicate 64 (Value.int IntKind.u16 0)).toArray, .slice none 0 0], []⟩).memory Tryd.f8.params.toList Rows.frameBytesRoundTripSpec.vars false #[(Value.agg (List.replicate 64 (Value.int IntKind.u16 0)).toArray : Value), .slice none 0 0].toList 8 = some ([.agg (List.replicate 64 (.lit (.int .u16 0))), .nil], [], places) :=
  ⟨[], by kernel_rfl⟩

set_option maxRecDepth 100000 in
theorem lifted (os : Os) (started : os.Started) (H : Type) (enc : TypeId × Value → H) (F : Stop.Interp) :
    ReturnsInHanded {} Tryd.checked os 8 .any ((OpenSpec.ofChange Rows.frameBytesRoundTripSpec).preRow enc Tryd.prog Tryd.f8 Rows.frameBytesRoundTripRow.domain false Rows.frameBytesRoundTripRow.laid) (((OpenSpec.ofChange Rows.frameBytesRoundTripSpec).at F).post enc Tryd.prog Tryd.f8 false true false false) := by
  obtain ⟨places, hx⟩ := reads os enc
  refine returnsInHanded_of_row (C := Tryd.checked) (s := (OpenSpec.ofChange Rows.frameBytesRoundTripSpec)) own started (by kernel_rfl) Tryd.func8
    (witness_row_at (enc := enc) (C := Tryd.checked) false (laidWorld os) #[Value.agg (List.replicate 64 (Value.int IntKind.u16 0)).toArray, .slice none 0 0] rfl (by kernel_rfl) (by kernel_rfl) (by kernel_rfl)
      (OpenSpec.preRow_of_cond 8 hx (by kernel_rfl) (fun k hk => by cases hk) (by kernel_rfl) (laid_met os))) ?_
  intro W base args ds gs before hval hW _ _ hsz hL _ _
  exact contract H enc W base args ds gs before hval hW hL hsz

theorem said : Rows.FrameBytesRoundTripSaid :=
  OpenClaim.holds_of_cond 8 Tryd.f8 rfl rfl rfl rfl rfl rfl rfl ⟨rfl, rfl, rfl, rfl, rfl⟩ rfl rfl rfl rfl rfl (by kernel_rfl) Tryd.func8 (by kernel_rfl)
    (of_decide_eq_true (by kernel_rfl)) (by unfold Func.isWrapper; first | (rw [if_pos (by decide +kernel)]; kernel_rfl) | (rw [if_neg (by decide +kernel)]; exact ⟨rfl, rfl⟩))
    (fun os started H enc _ F => by rw [OpenClaim.pre_eq_preRow]; exact lifted os started H enc F)
theorem plain (f : FuncId) (fn : Func) (hf : Tryd.pinned.checked.prog.funcNamed "orangebox/orangeboxlaw1.FrameBytesRoundTrip" = some f) (hfn : Tryd.pinned.checked.prog.funcs[f]? = some fn) :
    false = Tryd.pinned.checked.prog.looks [] ∧ ∀ (j : Nat) t, fn.params[j]? = some t → Tryd.pinned.checked.prog.wantsStandIn t = false := by
  obtain rfl : f = 8 := Option.some.inj ((show Tryd.prog.funcNamed "orangebox/orangeboxlaw1.FrameBytesRoundTrip" = some 8 by kernel_rfl).symm.trans hf) |>.symm
  obtain rfl : fn = Tryd.f8 := (Option.some.inj (Tryd.func8.symm.trans hfn)).symm
  refine ⟨by kernel_rfl, fun j t ht => ?_⟩
  rw [Tryd.params8] at ht
  have hall : (#[25, 22] : Array TypeId).toList.all (fun t => !Tryd.prog.wantsStandIn t) = true := by kernel_rfl
  have q := List.all_eq_true.1 hall t (Array.mem_toList_iff.2 (Array.mem_of_getElem? ht))
  have q2 : Tryd.prog.wantsStandIn t = false := by simpa using q
  exact q2

theorem card : Rows.FrameBytesRoundTripCardSaid :=
  Claim7.holds_tied_plain_at .later [] _ _ _ _ said (fun _ h => by cases h) (by kernel_rfl) (fun _ h => by cases h) frameBytesRoundTrip_row_tie rfl ⟨rfl, rfl⟩ (by kernel_rfl) rfl plain (by kernel_rfl)
end Go.Proofs.YtafgmocdnjdmoaaDoor.frameBytesRoundTrip
