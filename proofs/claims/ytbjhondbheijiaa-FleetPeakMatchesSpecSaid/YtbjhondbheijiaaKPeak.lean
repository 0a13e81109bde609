/- For every input the law's function returns true and each argument reads as it did; no condition. -/
import Derived.Test.YtbjhondbheijiaaRows
import Derived.WalkKit
import Derived.ProofKit
import Derived.OpenShut
import Derived.Deep.DeepHandedRow
import Derived.SizedLaws
import Derived.Test.YtbjhondbheijiaaQV5
import Derived.Test.YtbjhondbheijiaaQLaw1
namespace Go.Proofs.Ytbjhondbheijiaa.fleetPeakMatchesSpec
open Go.ChangeShapes Go.WideShapes Go.ChangeAt Go.RowKit
open Go.OB Go.Lf
theorem laidOut : laidOutB Try.prog = true := by kernel_rfl
theorem own : ownKnob Try.prog.godebug = none := by kernel_rfl
theorem o9 {H : Type} {enc : TypeId × Value → H} {w : World} {base : Nat} {sp : Nat → Bool} {held : Bool} : Opens enc Try.prog w base sp held 9 Rp.str (fun x => okS x) := opens_str Try.underlying9
theorem o3 {H : Type} {enc : TypeId × Value → H} {w : World} {base : Nat} {sp : Nat → Bool} {held : Bool} : Opens enc Try.prog w base sp held 3 (Rp.int .i64) (fun x => i64 x) := opens_i64 Try.underlying3
theorem o62 {H : Type} {enc : TypeId × Value → H} {w : World} {base : Nat} {sp : Nat → Bool} {held : Bool} : Opens enc Try.prog w base sp held 62 rSample (fun x => okSample x) := by
  intro fuel cs x h
  have hl := trod_len (i := 0) (ft := 3) (off := 0) (by kernel_rfl) h
  obtain ⟨a0, q0, k0⟩ := part_rd (i := 0) (ft := 3) (off := 0) (s := 1) o3 (by kernel_rfl) (by kernel_rfl) h
  obtain ⟨a1, q1, k1⟩ := part_rd (i := 1) (ft := 3) (off := 1) (s := 1) o3 (by kernel_rfl) (by kernel_rfl) h
  obtain ⟨a2, q2, k2⟩ := part_rd (i := 2) (ft := 3) (off := 2) (s := 1) o3 (by kernel_rfl) (by kernel_rfl) h
  have q := (pair_rd q0 (pair_rd q1 q2 rfl) rfl)
  rw [List.drop_zero, List.take_of_length_le (by rw [hl]; exact Nat.le_of_eq (by kernel_rfl))] at q
  exact ⟨Sample.mk a0 a1 a2, q, k0, k1, k2⟩
theorem o56 {H : Type} {enc : TypeId × Value → H} {w : World} {base : Nat} {sp : Nat → Bool} {held : Bool} : Opens enc Try.prog w base sp held 56 (Rp.sl rSample) (fun x => okL (fun x => okSample x) x) := opens_sl Try.underlying56 (by kernel_rfl) (by decide) o62
theorem o58 {H : Type} {enc : TypeId × Value → H} {w : World} {base : Nat} {sp : Nat → Bool} {held : Bool} : Opens enc Try.prog w base sp held 58 rSeries (fun x => okSeries x) := by
  intro fuel cs x h
  have hl := trod_len (i := 0) (ft := 3) (off := 0) (by kernel_rfl) h
  obtain ⟨a0, q0, k0⟩ := part_rd (i := 0) (ft := 3) (off := 0) (s := 1) o3 (by kernel_rfl) (by kernel_rfl) h
  obtain ⟨a1, q1, k1⟩ := part_rd (i := 1) (ft := 56) (off := 1) (s := 1) o56 (by kernel_rfl) (by kernel_rfl) h
  have q := (pair_rd q0 q1 rfl)
  rw [List.drop_zero, List.take_of_length_le (by rw [hl]; exact Nat.le_of_eq (by kernel_rfl))] at q
  exact ⟨Series.mk a0 a1, q, k0, k1⟩
theorem o60 {H : Type} {enc : TypeId × Value → H} {w : World} {base : Nat} {sp : Nat → Bool} {held : Bool} : Opens enc Try.prog w base sp held 60 rTrack (fun x => okTrack x) := by
  intro fuel cs x h
  have hl := trod_len (i := 0) (ft := 9) (off := 0) (by kernel_rfl) h
  obtain ⟨a0, q0, k0⟩ := part_rd (i := 0) (ft := 9) (off := 0) (s := 1) o9 (by kernel_rfl) (by kernel_rfl) h
  obtain ⟨a1, q1, k1⟩ := part_rd (i := 1) (ft := 58) (off := 1) (s := 2) o58 (by kernel_rfl) (by kernel_rfl) h
  obtain ⟨a2, q2, k2⟩ := part_rd (i := 2) (ft := 3) (off := 3) (s := 1) o3 (by kernel_rfl) (by kernel_rfl) h
  have q := (pair_rd q0 (pair_rd q1 q2 rfl) rfl)
  rw [List.drop_zero, List.take_of_length_le (by rw [hl]; exact Nat.le_of_eq (by kernel_rfl))] at q
  exact ⟨Track.mk a0 a1 a2, q, k0, k1, k2⟩
theorem o22 {H : Type} {enc : TypeId × Value → H} {w : World} {base : Nat} {sp : Nat → Bool} {held : Bool} : Opens enc Try.prog w base sp held 22 (Rp.sl rTrack) (fun x => okL (fun x => okTrack x) x) := opens_sl Try.underlying22 (by kernel_rfl) (by decide) o60
theorem o24 {H : Type} {enc : TypeId × Value → H} {w : World} {base : Nat} {sp : Nat → Bool} {held : Bool} : Opens enc Try.prog w base sp held 24 rFlight (fun x => okFlight x) := by
  intro fuel cs x h
  have hl := trod_len (i := 0) (ft := 9) (off := 0) (by kernel_rfl) h
  obtain ⟨a0, q0, k0⟩ := part_rd (i := 0) (ft := 9) (off := 0) (s := 1) o9 (by kernel_rfl) (by kernel_rfl) h
  obtain ⟨a1, q1, k1⟩ := part_rd (i := 1) (ft := 9) (off := 1) (s := 1) o9 (by kernel_rfl) (by kernel_rfl) h
  obtain ⟨a2, q2, k2⟩ := part_rd (i := 2) (ft := 3) (off := 2) (s := 1) o3 (by kernel_rfl) (by kernel_rfl) h
  obtain ⟨a3, q3, k3⟩ := part_rd (i := 3) (ft := 3) (off := 3) (s := 1) o3 (by kernel_rfl) (by kernel_rfl) h
  obtain ⟨a4, q4, k4⟩ := part_rd (i := 4) (ft := 3) (off := 4) (s := 1) o3 (by kernel_rfl) (by kernel_rfl) h
  obtain ⟨a5, q5, k5⟩ := part_rd (i := 5) (ft := 22) (off := 5) (s := 1) o22 (by kernel_rfl) (by kernel_rfl) h
  have q := (pair_rd q0 (pair_rd q1 (pair_rd q2 (pair_rd q3 (pair_rd q4 q5 rfl) rfl) rfl) rfl) rfl)
  rw [List.drop_zero, List.take_of_length_le (by rw [hl]; exact Nat.le_of_eq (by kernel_rfl))] at q
  exact ⟨Flight.mk a0 a1 a2 a3 a4 a5, q, k0, k1, k2, k3, k4, k5⟩
set_option maxHeartbeats 2000000 in
set_option maxRecDepth 100000 in
theorem contract (H : Type) (enc : TypeId × Value → H) (W : World) (base : Nat) (args : Array Value) (ds gs : List (DataW H)) (before : List MemPlace)
    (hval : ∀ (j : Nat) t v, Try.f3.params[j]? = some t → args[j]? = some v → Value.okWide Try.prog W .any base t v)
    (hW : DataW.Whole enc Try.prog Try.f3.params.toList Rows.fleetPeakMatchesSpecSpec.vars false W args.toList ds gs before) :
    Calls Try.prog 3 args W fun e W' => ∃ v, e = .returned v ∧ Rows.fleetPeakMatchesSpecSpec.post enc Try.prog Try.f3 false true false false W args v W' := by
  have hW' := hW
  obtain ⟨p, q, hA0, hV, rfl, hfz, hnd⟩ := hW
  have hA : DataW.TrodAll enc Try.prog W 0 (fun _ => true) true Try.f3.params.toList args.toList ds p := hA0
  rw [Try.params3] at hA hval
  obtain ⟨v0, vs0, d0, ds0, p0, q0, hargs, rfl, rfl, h0, r0⟩ := trodAll_cons hA
  obtain ⟨v1, vs1, d1, ds1, p1, q1, rfl, rfl, rfl, h1, r1⟩ := trodAll_cons r0
  obtain ⟨v2, vs2, d2, ds2, p2, q2, rfl, rfl, rfl, h2, r2⟩ := trodAll_cons r1
  obtain ⟨rfl, rfl, rfl⟩ := trodAll_nil r2
  obtain rfl : args = #[v0, v1, v2] := by cases args; simp_all
  obtain ⟨rfl, rfl⟩ := trodVars_none hV
  have k0 := h0
  have lt0 : ∀ x ∈ p0, x.block < W.heap.size := by obtain ⟨m, hm⟩ := k0; exact DataW.trod_lt m _ _ _ hm
  obtain ⟨fu0, hf0⟩ := h0
  obtain ⟨x0, y0, z0⟩ := o24 fu0 _ _ hf0
  obtain ⟨cs0, rfl⟩ := okWide_agg (t := 24) (by kernel_rfl) (hval 0 24 v0 rfl rfl)
  obtain ⟨u0_226, e0, s0_0⟩ := rFlight_open y0
  obtain rfl : cs0 = [.string (bs x0.Tail), .string (bs x0.Route), .int .i64 x0.Day, .int .i64 x0.From, .int .i64 x0.To, u0_226].toArray := by apply Array.ext'; exact e0
  have k1 := h1
  have lt1 : ∀ x ∈ p1, x.block < W.heap.size := by obtain ⟨m, hm⟩ := k1; exact DataW.trod_lt m _ _ _ hm
  obtain ⟨fu1, hf1⟩ := h1
  obtain ⟨x1, y1, z1⟩ := o9 fu1 _ _ hf1
  obtain ⟨a1, rfl⟩ := okWide_string Try.underlying9 (hval 1 9 v1 rfl rfl)
  obtain rfl : a1 = bs x1 := by have y : [Value.string a1] = [Value.string (bs x1)] := y1; simpa using y
  have k2 := h2
  have lt2 : ∀ x ∈ p2, x.block < W.heap.size := by obtain ⟨m, hm⟩ := k2; exact DataW.trod_lt m _ _ _ hm
  obtain ⟨fu2, hf2⟩ := h2
  obtain ⟨x2, y2, z2⟩ := o3 fu2 _ _ hf2
  obtain ⟨a2, rfl⟩ := okWide_int Try.underlying3 (hval 2 3 v2 rfl rfl)
  obtain rfl : x2 = a2 := by have y : [Value.int .i64 a2] = [Value.int .i64 x2] := y2; simpa using y.symm
  clear hA0
  have HH := (Hd.fresh0 W).fzs [.sl rTrack u0_226 x0.Tracks] ⟨slf_all s0_0, trivial⟩
  refine (F_law9_FleetPeakMatchesSpec_w x0 x1 x2 u0_226 true (peak_plain x0 x1 x2 z0 z1 z2) [] [] W HH).mono fun e W' ⟨he, G⟩ => ?_
  subst he
  have bel : Below W.heap.size W W' := G.only.below
  exact ⟨_, rfl, _, _, _, [], _, [], hW', trodAll_mk1 (shut_bool Try.underlying4 _), (trodAll_cons_mk (Below.trod laidOut (by kernel_rfl) (of_decide_eq_true (by kernel_rfl)) k0 bel lt0) (trodAll_cons_mk (Below.trod laidOut (by kernel_rfl) (of_decide_eq_true (by kernel_rfl)) k1 bel lt1) (trodAll_cons_mk (Below.trod laidOut (by kernel_rfl) (of_decide_eq_true (by kernel_rfl)) k2 bel lt2) trodAll_mk0))), rfl, bel.frame _, fun h => by cases h⟩

/-- A world for the witness. -/
noncomputable def laidWorld (os : Os) : World := World.holding Try.prog os ⟨#[], #[], []⟩
theorem laid_met (os : Os) : laidMet Try.prog Rows.fleetPeakMatchesSpecRow.laid ((laidWorld os).forCall (fun _ _ => 0) ⟨#[], #[Value.agg #[.string ⟨#[]⟩, .string ⟨#[]⟩, .int .i64 0, .int .i64 0, .int .i64 0, .slice none 0 0], .string ⟨#[]⟩, .int .i64 0], []⟩).memory :=
  laidMet_of_run' 8 (by kernel_rfl) (by kernel_rfl)
theorem reads (os : Os) {H : Type} (enc : TypeId × Value → H) : ∃ places, DataW.whole enc Try.prog ((laidWorld os).forCall (fun _ _ => 0) ⟨#[], #[Value.agg #[.string ⟨#[]⟩, .string ⟨#[]⟩, .int .i64 0, .int .i64 0, .int .i64 0, .slice none 0 0], .string ⟨#[]⟩, .int .i64 0], []⟩).memory Try.f3.params.toList Rows.fleetPeakMatchesSpecSpec.vars false #[(Value.agg #[.string ⟨#[]⟩, .string ⟨#[]⟩, .int .i64 0, .int .i64 0, .int .i64 0, .slice none 0 0] : Value), .string ⟨#[]⟩, .int .i64 0].toList 8 = some ([.agg [.lit (.string []), .lit (.string []), .lit (.int .i64 0), .lit (.int .i64 0), .lit (.int .i64 0), .nil], .lit (.string []), .lit (.int .i64 0)], [], places) :=
  ⟨[], by kernel_rfl⟩

set_option maxRecDepth 100000 in
theorem lifted (os : Os) (started : os.Started) (H : Type) (enc : TypeId × Value → H) (F : Stop.Interp) :
    ReturnsInHanded {} Try.checked os 3 .any ((OpenSpec.ofChange Rows.fleetPeakMatchesSpecSpec).preRow enc Try.prog Try.f3 Rows.fleetPeakMatchesSpecRow.domain false Rows.fleetPeakMatchesSpecRow.laid) (((OpenSpec.ofChange Rows.fleetPeakMatchesSpecSpec).at F).post enc Try.prog Try.f3 false true false false) := by
  obtain ⟨places, hx⟩ := reads os enc
  refine returnsInHanded_of_row (C := Try.checked) (s := (OpenSpec.ofChange Rows.fleetPeakMatchesSpecSpec)) own started (by kernel_rfl) Try.func3
    (witness_row_at (enc := enc) (C := Try.checked) false (laidWorld os) #[Value.agg #[.string ⟨#[]⟩, .string ⟨#[]⟩, .int .i64 0, .int .i64 0, .int .i64 0, .slice none 0 0], .string ⟨#[]⟩, .int .i64 0] rfl (by kernel_rfl) (by kernel_rfl) (by kernel_rfl)
      (OpenSpec.preRow_of_cond 8 hx (by kernel_rfl) (fun k hk => by cases hk) (by kernel_rfl) (laid_met os))) ?_
  intro W base args ds gs before hval hW _ _ _ _ _ _
  exact contract H enc W base args ds gs before hval hW

theorem said : Rows.FleetPeakMatchesSpecSaid :=
  OpenClaim.holds_of_cond 3 Try.f3 rfl rfl rfl rfl rfl rfl rfl ⟨rfl, rfl, rfl, rfl, rfl⟩ rfl rfl rfl rfl rfl (by kernel_rfl) Try.func3 (by kernel_rfl)
    (of_decide_eq_true (by kernel_rfl)) (by unfold Func.isWrapper; first | (rw [if_pos (by decide +kernel)]; kernel_rfl) | (rw [if_neg (by decide +kernel)]; exact ⟨rfl, rfl⟩))
    (fun os started H enc _ F => by rw [OpenClaim.pre_eq_preRow]; exact lifted os started H enc F)
end Go.Proofs.Ytbjhondbheijiaa.fleetPeakMatchesSpec
