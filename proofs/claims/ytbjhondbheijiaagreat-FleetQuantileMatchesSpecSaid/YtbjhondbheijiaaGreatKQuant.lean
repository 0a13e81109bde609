/- For every input the law's function returns true and each argument reads as it did; no condition. -/
import Derived.Test.YtbjhondbheijiaaGreatRows
import Derived.WalkKit
import Derived.ProofKit
import Derived.OpenShut
import Derived.Deep.DeepHandedRow
import Derived.SizedLaws
import Derived.Test.YtbjhondbheijiaaGreatZV9
import Derived.Test.YtbjhondbheijiaaGreatZNd
import Derived.Test.YtbjhondbheijiaaGreatOpx
namespace Go.Proofs.YtbjhondbheijiaaGreat.fleetQuantileMatchesSpec
open Go.ChangeShapes Go.WideShapes Go.ChangeAt Go.RowKit
open Go.OB Go.Lf
theorem laidOut : laidOutB Tryz.prog = true := by kernel_rfl
theorem own : ownKnob Tryz.prog.godebug = none := by kernel_rfl
theorem o9 {H : Type} {enc : TypeId × Value → H} {w : World} {base : Nat} {sp : Nat → Bool} {held : Bool} : Opens enc Tryz.prog w base sp held 9 Rp.str (fun x => okS x) := opens_str Tryz.underlying9
theorem o3 {H : Type} {enc : TypeId × Value → H} {w : World} {base : Nat} {sp : Nat → Bool} {held : Bool} : Opens enc Tryz.prog w base sp held 3 (Rp.int .i64) (fun x => i64 x) := opens_i64 Tryz.underlying3
theorem o97 {H : Type} {enc : TypeId × Value → H} {w : World} {base : Nat} {sp : Nat → Bool} {held : Bool} : Opens enc Tryz.prog w base sp held 97 rSample (fun x => okSample x) := by
  intro fuel cs x h
  have hl := trod_len (i := 0) (ft := 3) (off := 0) (by kernel_rfl) h
  obtain ⟨a0, q0, k0⟩ := part_rd (i := 0) (ft := 3) (off := 0) (s := 1) o3 (by kernel_rfl) (by kernel_rfl) h
  obtain ⟨a1, q1, k1⟩ := part_rd (i := 1) (ft := 3) (off := 1) (s := 1) o3 (by kernel_rfl) (by kernel_rfl) h
  obtain ⟨a2, q2, k2⟩ := part_rd (i := 2) (ft := 3) (off := 2) (s := 1) o3 (by kernel_rfl) (by kernel_rfl) h
  have q := (pair_rd q0 (pair_rd q1 q2 rfl) rfl)
  rw [List.drop_zero, List.take_of_length_le (by rw [hl]; exact Nat.le_of_eq (by kernel_rfl))] at q
  exact ⟨Sample.mk a0 a1 a2, q, k0, k1, k2⟩
theorem o70 {H : Type} {enc : TypeId × Value → H} {w : World} {base : Nat} {sp : Nat → Bool} {held : Bool} : Opens enc Tryz.prog w base sp held 70 (Rp.sl rSample) (fun x => okL (fun x => okSample x) x) := opens_sl Tryz.underlying70 (by kernel_rfl) (by decide) o97
theorem o72 {H : Type} {enc : TypeId × Value → H} {w : World} {base : Nat} {sp : Nat → Bool} {held : Bool} : Opens enc Tryz.prog w base sp held 72 rSeries (fun x => okSeries x) := by
  intro fuel cs x h
  have hl := trod_len (i := 0) (ft := 3) (off := 0) (by kernel_rfl) h
  obtain ⟨a0, q0, k0⟩ := part_rd (i := 0) (ft := 3) (off := 0) (s := 1) o3 (by kernel_rfl) (by kernel_rfl) h
  obtain ⟨a1, q1, k1⟩ := part_rd (i := 1) (ft := 70) (off := 1) (s := 1) o70 (by kernel_rfl) (by kernel_rfl) h
  have q := (pair_rd q0 q1 rfl)
  rw [List.drop_zero, List.take_of_length_le (by rw [hl]; exact Nat.le_of_eq (by kernel_rfl))] at q
  exact ⟨Series.mk a0 a1, q, k0, k1⟩
theorem o74 {H : Type} {enc : TypeId × Value → H} {w : World} {base : Nat} {sp : Nat → Bool} {held : Bool} : Opens enc Tryz.prog w base sp held 74 rTrack (fun x => okTrack x) := by
  intro fuel cs x h
  have hl := trod_len (i := 0) (ft := 9) (off := 0) (by kernel_rfl) h
  obtain ⟨a0, q0, k0⟩ := part_rd (i := 0) (ft := 9) (off := 0) (s := 1) o9 (by kernel_rfl) (by kernel_rfl) h
  obtain ⟨a1, q1, k1⟩ := part_rd (i := 1) (ft := 72) (off := 1) (s := 2) o72 (by kernel_rfl) (by kernel_rfl) h
  obtain ⟨a2, q2, k2⟩ := part_rd (i := 2) (ft := 3) (off := 3) (s := 1) o3 (by kernel_rfl) (by kernel_rfl) h
  have q := (pair_rd q0 (pair_rd q1 q2 rfl) rfl)
  rw [List.drop_zero, List.take_of_length_le (by rw [hl]; exact Nat.le_of_eq (by kernel_rfl))] at q
  exact ⟨Track.mk a0 a1 a2, q, k0, k1, k2⟩
theorem o64 {H : Type} {enc : TypeId × Value → H} {w : World} {base : Nat} {sp : Nat → Bool} {held : Bool} : Opens enc Tryz.prog w base sp held 64 (Rp.sl rTrack) (fun x => okL (fun x => okTrack x) x) := opens_sl Tryz.underlying64 (by kernel_rfl) (by decide) o74
theorem o66 {H : Type} {enc : TypeId × Value → H} {w : World} {base : Nat} {sp : Nat → Bool} {held : Bool} : Opens enc Tryz.prog w base sp held 66 rFlight (fun x => okFlight x) := by
  intro fuel cs x h
  have hl := trod_len (i := 0) (ft := 9) (off := 0) (by kernel_rfl) h
  obtain ⟨a0, q0, k0⟩ := part_rd (i := 0) (ft := 9) (off := 0) (s := 1) o9 (by kernel_rfl) (by kernel_rfl) h
  obtain ⟨a1, q1, k1⟩ := part_rd (i := 1) (ft := 9) (off := 1) (s := 1) o9 (by kernel_rfl) (by kernel_rfl) h
  obtain ⟨a2, q2, k2⟩ := part_rd (i := 2) (ft := 3) (off := 2) (s := 1) o3 (by kernel_rfl) (by kernel_rfl) h
  obtain ⟨a3, q3, k3⟩ := part_rd (i := 3) (ft := 3) (off := 3) (s := 1) o3 (by kernel_rfl) (by kernel_rfl) h
  obtain ⟨a4, q4, k4⟩ := part_rd (i := 4) (ft := 3) (off := 4) (s := 1) o3 (by kernel_rfl) (by kernel_rfl) h
  obtain ⟨a5, q5, k5⟩ := part_rd (i := 5) (ft := 64) (off := 5) (s := 1) o64 (by kernel_rfl) (by kernel_rfl) h
  have q := (pair_rd q0 (pair_rd q1 (pair_rd q2 (pair_rd q3 (pair_rd q4 q5 rfl) rfl) rfl) rfl) rfl)
  rw [List.drop_zero, List.take_of_length_le (by rw [hl]; exact Nat.le_of_eq (by kernel_rfl))] at q
  exact ⟨Flight.mk a0 a1 a2 a3 a4 a5, q, k0, k1, k2, k3, k4, k5⟩
theorem o22 {H : Type} {enc : TypeId × Value → H} {w : World} {base : Nat} {sp : Nat → Bool} {held : Bool} : Opens enc Tryz.prog w base sp held 22 (Rp.sl rFlight) (fun x => okL (fun x => okFlight x) x) := opens_sl Tryz.underlying22 (by kernel_rfl) (by decide) o66
theorem o4 {H : Type} {enc : TypeId × Value → H} {w : World} {base : Nat} {sp : Nat → Bool} {held : Bool} : Opens enc Tryz.prog w base sp held 4 Rp.bool (fun x => True) := opens_bool Tryz.underlying4
theorem o23 {H : Type} {enc : TypeId × Value → H} {w : World} {base : Nat} {sp : Nat → Bool} {held : Bool} : Opens enc Tryz.prog w base sp held 23 (Rp.sl Rp.str) (fun x => okL (fun x => okS x) x) := opens_sl Tryz.underlying23 (by kernel_rfl) (by decide) o9
theorem o91 {H : Type} {enc : TypeId × Value → H} {w : World} {base : Nat} {sp : Nat → Bool} {held : Bool} : Opens enc Tryz.prog w base sp held 91 rGrain (fun x => okGrain x) := by
  intro fuel cs x h
  have hl := trod_len (i := 0) (ft := 9) (off := 0) (by kernel_rfl) h
  obtain ⟨a0, q0, k0⟩ := part_rd (i := 0) (ft := 9) (off := 0) (s := 1) o9 (by kernel_rfl) (by kernel_rfl) h
  obtain ⟨a1, q1, k1⟩ := part_rd (i := 1) (ft := 3) (off := 1) (s := 1) o3 (by kernel_rfl) (by kernel_rfl) h
  have q := (pair_rd q0 q1 rfl)
  rw [List.drop_zero, List.take_of_length_le (by rw [hl]; exact Nat.le_of_eq (by kernel_rfl))] at q
  exact ⟨Grain.mk a0 a1, q, k0, k1⟩
theorem o24 {H : Type} {enc : TypeId × Value → H} {w : World} {base : Nat} {sp : Nat → Bool} {held : Bool} : Opens enc Tryz.prog w base sp held 24 (Rp.sl rGrain) (fun x => okL (fun x => okGrain x) x) := opens_sl Tryz.underlying24 (by kernel_rfl) (by decide) o91
theorem o26 {H : Type} {enc : TypeId × Value → H} {w : World} {base : Nat} {sp : Nat → Bool} {held : Bool} : Opens enc Tryz.prog w base sp held 26 rMask (fun x => okMask x) := by
  intro fuel cs x h
  have hl := trod_len (i := 0) (ft := 4) (off := 0) (by kernel_rfl) h
  obtain ⟨a0, q0, k0⟩ := part_rd (i := 0) (ft := 4) (off := 0) (s := 1) o4 (by kernel_rfl) (by kernel_rfl) h
  obtain ⟨a1, q1, k1⟩ := part_rd (i := 1) (ft := 3) (off := 1) (s := 1) o3 (by kernel_rfl) (by kernel_rfl) h
  obtain ⟨a2, q2, k2⟩ := part_rd (i := 2) (ft := 23) (off := 2) (s := 1) o23 (by kernel_rfl) (by kernel_rfl) h
  obtain ⟨a3, q3, k3⟩ := part_rd (i := 3) (ft := 24) (off := 3) (s := 1) o24 (by kernel_rfl) (by kernel_rfl) h
  obtain ⟨a4, q4, k4⟩ := part_rd (i := 4) (ft := 3) (off := 4) (s := 1) o3 (by kernel_rfl) (by kernel_rfl) h
  have q := (pair_rd q0 (pair_rd q1 (pair_rd q2 (pair_rd q3 q4 rfl) rfl) rfl) rfl)
  rw [List.drop_zero, List.take_of_length_le (by rw [hl]; exact Nat.le_of_eq (by kernel_rfl))] at q
  exact ⟨Mask.mk a0 a1 a2 a3 a4, q, k0, k1, k2, k3, k4⟩
set_option maxHeartbeats 2000000 in
set_option maxRecDepth 100000 in
theorem contract (H : Type) (enc : TypeId × Value → H) (W : World) (base : Nat) (args : Array Value) (ds gs : List (DataW H)) (before : List MemPlace)
    (hval : ∀ (j : Nat) t v, Tryz.f3.params[j]? = some t → args[j]? = some v → Value.okWide Tryz.prog W .any base t v)
    (hW : DataW.Whole enc Tryz.prog Tryz.f3.params.toList Rows.fleetQuantileMatchesSpecSpec.vars false W args.toList ds gs before) :
    Calls Tryz.prog 3 args W fun e W' => ∃ v, e = .returned v ∧ Rows.fleetQuantileMatchesSpecSpec.post enc Tryz.prog Tryz.f3 false true false false W args v W' := by
  have hW' := hW
  obtain ⟨p, q, hA0, hV, rfl, hfz, hnd⟩ := hW
  have hA : DataW.TrodAll enc Tryz.prog W 0 (fun _ => true) true Tryz.f3.params.toList args.toList ds p := hA0
  rw [Tryz.params3] at hA hval
  obtain ⟨v0, vs0, d0, ds0, p0, q0, hargs, rfl, rfl, h0, r0⟩ := trodAll_cons hA
  obtain ⟨v1, vs1, d1, ds1, p1, q1, rfl, rfl, rfl, h1, r1⟩ := trodAll_cons r0
  obtain ⟨v2, vs2, d2, ds2, p2, q2, rfl, rfl, rfl, h2, r2⟩ := trodAll_cons r1
  obtain ⟨v3, vs3, d3, ds3, p3, q3, rfl, rfl, rfl, h3, r3⟩ := trodAll_cons r2
  obtain ⟨v4, vs4, d4, ds4, p4, q4, rfl, rfl, rfl, h4, r4⟩ := trodAll_cons r3
  obtain ⟨rfl, rfl, rfl⟩ := trodAll_nil r4
  obtain rfl : args = #[v0, v1, v2, v3, v4] := by cases args; simp_all
  obtain ⟨rfl, rfl⟩ := trodVars_none hV
  have k0 := h0
  have lt0 : ∀ x ∈ p0, x.block < W.heap.size := by obtain ⟨m, hm⟩ := k0; exact DataW.trod_lt m _ _ _ hm
  obtain ⟨fu0, hf0⟩ := h0
  obtain ⟨x0, y0, z0⟩ := o22 fu0 _ _ hf0
  obtain ⟨a0, n0, c0, rfl⟩ := okWide_slice Tryz.underlying22 (hval 0 22 v0 rfl rfl)
  obtain ⟨u0, e0, s0_0⟩ := y0
  obtain rfl : Value.slice a0 n0 c0 = u0 := by have y : [Value.slice a0 n0 c0] = [u0] := e0; simpa using y
  have k1 := h1
  have lt1 : ∀ x ∈ p1, x.block < W.heap.size := by obtain ⟨m, hm⟩ := k1; exact DataW.trod_lt m _ _ _ hm
  obtain ⟨fu1, hf1⟩ := h1
  obtain ⟨x1, y1, z1⟩ := o26 fu1 _ _ hf1
  obtain ⟨cs1, rfl⟩ := okWide_agg (t := 26) (by kernel_rfl) (hval 1 26 v1 rfl rfl)
  obtain ⟨u1_106, u1_107, e1, s1_0, s1_1⟩ := rMask_open y1
  obtain rfl : cs1 = [.bool x1.Tails, .int .i64 x1.Days, u1_106, u1_107, .int .i64 x1.Least].toArray := by apply Array.ext'; exact e1
  have k2 := h2
  have lt2 : ∀ x ∈ p2, x.block < W.heap.size := by obtain ⟨m, hm⟩ := k2; exact DataW.trod_lt m _ _ _ hm
  obtain ⟨fu2, hf2⟩ := h2
  obtain ⟨x2, y2, z2⟩ := o9 fu2 _ _ hf2
  obtain ⟨a2, rfl⟩ := okWide_string Tryz.underlying9 (hval 2 9 v2 rfl rfl)
  obtain rfl : a2 = bs x2 := by have y : [Value.string a2] = [Value.string (bs x2)] := y2; simpa using y
  have k3 := h3
  have lt3 : ∀ x ∈ p3, x.block < W.heap.size := by obtain ⟨m, hm⟩ := k3; exact DataW.trod_lt m _ _ _ hm
  obtain ⟨fu3, hf3⟩ := h3
  obtain ⟨x3, y3, z3⟩ := o3 fu3 _ _ hf3
  obtain ⟨a3, rfl⟩ := okWide_int Tryz.underlying3 (hval 3 3 v3 rfl rfl)
  obtain rfl : x3 = a3 := by have y : [Value.int .i64 a3] = [Value.int .i64 x3] := y3; simpa using y.symm
  have k4 := h4
  have lt4 : ∀ x ∈ p4, x.block < W.heap.size := by obtain ⟨m, hm⟩ := k4; exact DataW.trod_lt m _ _ _ hm
  obtain ⟨fu4, hf4⟩ := h4
  obtain ⟨x4, y4, z4⟩ := o3 fu4 _ _ hf4
  obtain ⟨a4, rfl⟩ := okWide_int Tryz.underlying3 (hval 4 3 v4 rfl rfl)
  obtain rfl : x4 = a4 := by have y : [Value.int .i64 a4] = [Value.int .i64 x4] := y4; simpa using y.symm
  clear hA0
  have HH := (Hd.fresh0 W).fzs [.sl rFlight (.slice a0 n0 c0) x0, .sl Rp.str u1_106 x1.Hide, .sl rGrain u1_107 x1.Grains] ⟨slf_all s0_0, slf_all s1_0, slf_all s1_1, trivial⟩
  refine (L.F_law9_FleetQuantileMatchesSpec_w x0 x1 x2 x3 x4 (.slice a0 n0 c0) u1_106 u1_107 true (law_Quantile x0 x1 x2 x3 x4 z0 z1 z2 z3 z4) [] [] W HH).mono fun e W' ⟨he, G⟩ => ?_
  subst he
  have bel : Below W.heap.size W W' := G.only.below
  exact ⟨_, rfl, _, _, _, [], _, [], hW', trodAll_mk1 (shut_bool Tryz.underlying4 _), (trodAll_cons_mk (Below.trod laidOut (by kernel_rfl) (of_decide_eq_true (by kernel_rfl)) k0 bel lt0) (trodAll_cons_mk (Below.trod laidOut (by kernel_rfl) (of_decide_eq_true (by kernel_rfl)) k1 bel lt1) (trodAll_cons_mk (Below.trod laidOut (by kernel_rfl) (of_decide_eq_true (by kernel_rfl)) k2 bel lt2) (trodAll_cons_mk (Below.trod laidOut (by kernel_rfl) (of_decide_eq_true (by kernel_rfl)) k3 bel lt3) (trodAll_cons_mk (Below.trod laidOut (by kernel_rfl) (of_decide_eq_true (by kernel_rfl)) k4 bel lt4) trodAll_mk0))))), rfl, bel.frame _, fun h => by cases h⟩

/-- A world for the witness. -/
noncomputable def laidWorld (os : Os) : World := World.holding Tryz.prog os ⟨#[], #[], []⟩
theorem laid_met (os : Os) : laidMet Tryz.prog Rows.fleetQuantileMatchesSpecRow.laid ((laidWorld os).forCall (fun _ _ => 0) ⟨#[], #[.slice none 0 0, Value.agg #[.bool false, .int .i64 0, .slice none 0 0, .slice none 0 0, .int .i64 0], .string ⟨#[]⟩, .int .i64 0, .int .i64 0], []⟩).memory :=
  laidMet_of_run' 8 (by kernel_rfl) (by kernel_rfl)
theorem reads (os : Os) {H : Type} (enc : TypeId × Value → H) : ∃ places, DataW.whole enc Tryz.prog ((laidWorld os).forCall (fun _ _ => 0) ⟨#[], #[.slice none 0 0, Value.agg #[.bool false, .int .i64 0, .slice none 0 0, .slice none 0 0, .int .i64 0], .string ⟨#[]⟩, .int .i64 0, .int .i64 0], []⟩).memory Tryz.f3.params.toList Rows.fleetQuantileMatchesSpecSpec.vars false #[(.slice none 0 0 : Value), Value.agg #[.bool false, .int .i64 0, .slice none 0 0, .slice none 0 0, .int .i64 0], .string ⟨#[]⟩, .int .i64 0, .int .i64 0].toList 8 = some ([.nil, .agg [.lit (.bool false), .lit (.int .i64 0), .nil, .nil, .lit (.int .i64 0)], .lit (.string []), .lit (.int .i64 0), .lit (.int .i64 0)], [], places) :=
  ⟨[], by kernel_rfl⟩

set_option maxRecDepth 100000 in
theorem lifted (os : Os) (started : os.Started) (H : Type) (enc : TypeId × Value → H) (F : Stop.Interp) :
    ReturnsInHanded {} Tryz.checked os 3 .any ((OpenSpec.ofChange Rows.fleetQuantileMatchesSpecSpec).preRow enc Tryz.prog Tryz.f3 Rows.fleetQuantileMatchesSpecRow.domain false Rows.fleetQuantileMatchesSpecRow.laid) (((OpenSpec.ofChange Rows.fleetQuantileMatchesSpecSpec).at F).post enc Tryz.prog Tryz.f3 false true false false) := by
  obtain ⟨places, hx⟩ := reads os enc
  refine returnsInHanded_of_row (C := Tryz.checked) (s := (OpenSpec.ofChange Rows.fleetQuantileMatchesSpecSpec)) own started (by kernel_rfl) Tryz.func3
    (witness_row_at (enc := enc) (C := Tryz.checked) false (laidWorld os) #[.slice none 0 0, Value.agg #[.bool false, .int .i64 0, .slice none 0 0, .slice none 0 0, .int .i64 0], .string ⟨#[]⟩, .int .i64 0, .int .i64 0] rfl (by kernel_rfl) (by kernel_rfl) (by kernel_rfl)
      (OpenSpec.preRow_of_cond 8 hx (by kernel_rfl) (fun k hk => by cases hk) (by kernel_rfl) (laid_met os))) ?_
  intro W base args ds gs before hval hW _ _ _ _ _ _
  exact contract H enc W base args ds gs before hval hW

theorem said : Rows.FleetQuantileMatchesSpecSaid :=
  OpenClaim.holds_of_cond 3 Tryz.f3 rfl rfl rfl rfl rfl rfl rfl ⟨rfl, rfl, rfl, rfl, rfl⟩ rfl rfl rfl rfl rfl (by kernel_rfl) Tryz.func3 (by kernel_rfl)
    (of_decide_eq_true (by kernel_rfl)) (by unfold Func.isWrapper; first | (rw [if_pos (by decide +kernel)]; kernel_rfl) | (rw [if_neg (by decide +kernel)]; exact ⟨rfl, rfl⟩))
    (fun os started H enc _ F => by rw [OpenClaim.pre_eq_preRow]; exact lifted os started H enc F)
end Go.Proofs.YtbjhondbheijiaaGreat.fleetQuantileMatchesSpec
