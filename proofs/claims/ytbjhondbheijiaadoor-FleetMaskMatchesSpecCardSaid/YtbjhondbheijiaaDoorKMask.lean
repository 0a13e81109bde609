/- The tied card: for every input the law's function returns true and each argument reads as it did. Condition: the tables of math/bits and internal/strconv hold what the program's text lays there. -/
import Derived.Test.YtbjhondbheijiaaDoorCards
import Derived.Test.YtbjhondbheijiaaDoorTie
import Derived.Lib.LaidTab
import Derived.LaidSub
import Derived.WalkKit
import Derived.ProofKit
import Derived.OpenShut
import Derived.Deep.DeepHandedRow
import Derived.SizedLaws
import Derived.Test.YtbjhondbheijiaaDoorDV6
import Derived.Test.YtbjhondbheijiaaDoorDNb
namespace Go.Proofs.YtbjhondbheijiaaDoor.fleetMaskMatchesSpec
open Go.ChangeShapes Go.WideShapes Go.ChangeAt Go.RowKit
open Go.OB Go.Lf
theorem laidOut : laidOutB Tryd.prog = true := by kernel_rfl
theorem own : ownKnob Tryd.prog.godebug = none := by kernel_rfl
theorem o9 {H : Type} {enc : TypeId × Value → H} {w : World} {base : Nat} {sp : Nat → Bool} {held : Bool} : Opens enc Tryd.prog w base sp held 9 Rp.str (fun x => okS x) := opens_str Tryd.underlying9
theorem o3 {H : Type} {enc : TypeId × Value → H} {w : World} {base : Nat} {sp : Nat → Bool} {held : Bool} : Opens enc Tryd.prog w base sp held 3 (Rp.int .i64) (fun x => i64 x) := opens_i64 Tryd.underlying3
theorem o99 {H : Type} {enc : TypeId × Value → H} {w : World} {base : Nat} {sp : Nat → Bool} {held : Bool} : Opens enc Tryd.prog w base sp held 99 rSample (fun x => okSample x) := by
  intro fuel cs x h
  have hl := trod_len (i := 0) (ft := 3) (off := 0) (by kernel_rfl) h
  obtain ⟨a0, q0, k0⟩ := part_rd (i := 0) (ft := 3) (off := 0) (s := 1) o3 (by kernel_rfl) (by kernel_rfl) h
  obtain ⟨a1, q1, k1⟩ := part_rd (i := 1) (ft := 3) (off := 1) (s := 1) o3 (by kernel_rfl) (by kernel_rfl) h
  obtain ⟨a2, q2, k2⟩ := part_rd (i := 2) (ft := 3) (off := 2) (s := 1) o3 (by kernel_rfl) (by kernel_rfl) h
  have q := (pair_rd q0 (pair_rd q1 q2 rfl) rfl)
  rw [List.drop_zero, List.take_of_length_le (by rw [hl]; exact Nat.le_of_eq (by kernel_rfl))] at q
  exact ⟨Sample.mk a0 a1 a2, q, k0, k1, k2⟩
theorem o91 {H : Type} {enc : TypeId × Value → H} {w : World} {base : Nat} {sp : Nat → Bool} {held : Bool} : Opens enc Tryd.prog w base sp held 91 (Rp.sl rSample) (fun x => okL (fun x => okSample x) x) := opens_sl Tryd.underlying91 (by kernel_rfl) (by decide) o99
theorem o93 {H : Type} {enc : TypeId × Value → H} {w : World} {base : Nat} {sp : Nat → Bool} {held : Bool} : Opens enc Tryd.prog w base sp held 93 rSeries (fun x => okSeries x) := by
  intro fuel cs x h
  have hl := trod_len (i := 0) (ft := 3) (off := 0) (by kernel_rfl) h
  obtain ⟨a0, q0, k0⟩ := part_rd (i := 0) (ft := 3) (off := 0) (s := 1) o3 (by kernel_rfl) (by kernel_rfl) h
  obtain ⟨a1, q1, k1⟩ := part_rd (i := 1) (ft := 91) (off := 1) (s := 1) o91 (by kernel_rfl) (by kernel_rfl) h
  have q := (pair_rd q0 q1 rfl)
  rw [List.drop_zero, List.take_of_length_le (by rw [hl]; exact Nat.le_of_eq (by kernel_rfl))] at q
  exact ⟨Series.mk a0 a1, q, k0, k1⟩
theorem o95 {H : Type} {enc : TypeId × Value → H} {w : World} {base : Nat} {sp : Nat → Bool} {held : Bool} : Opens enc Tryd.prog w base sp held 95 rTrack (fun x => okTrack x) := by
  intro fuel cs x h
  have hl := trod_len (i := 0) (ft := 9) (off := 0) (by kernel_rfl) h
  obtain ⟨a0, q0, k0⟩ := part_rd (i := 0) (ft := 9) (off := 0) (s := 1) o9 (by kernel_rfl) (by kernel_rfl) h
  obtain ⟨a1, q1, k1⟩ := part_rd (i := 1) (ft := 93) (off := 1) (s := 2) o93 (by kernel_rfl) (by kernel_rfl) h
  obtain ⟨a2, q2, k2⟩ := part_rd (i := 2) (ft := 3) (off := 3) (s := 1) o3 (by kernel_rfl) (by kernel_rfl) h
  have q := (pair_rd q0 (pair_rd q1 q2 rfl) rfl)
  rw [List.drop_zero, List.take_of_length_le (by rw [hl]; exact Nat.le_of_eq (by kernel_rfl))] at q
  exact ⟨Track.mk a0 a1 a2, q, k0, k1, k2⟩
theorem o45 {H : Type} {enc : TypeId × Value → H} {w : World} {base : Nat} {sp : Nat → Bool} {held : Bool} : Opens enc Tryd.prog w base sp held 45 (Rp.sl rTrack) (fun x => okL (fun x => okTrack x) x) := opens_sl Tryd.underlying45 (by kernel_rfl) (by decide) o95
theorem o47 {H : Type} {enc : TypeId × Value → H} {w : World} {base : Nat} {sp : Nat → Bool} {held : Bool} : Opens enc Tryd.prog w base sp held 47 rFlight (fun x => okFlight x) := by
  intro fuel cs x h
  have hl := trod_len (i := 0) (ft := 9) (off := 0) (by kernel_rfl) h
  obtain ⟨a0, q0, k0⟩ := part_rd (i := 0) (ft := 9) (off := 0) (s := 1) o9 (by kernel_rfl) (by kernel_rfl) h
  obtain ⟨a1, q1, k1⟩ := part_rd (i := 1) (ft := 9) (off := 1) (s := 1) o9 (by kernel_rfl) (by kernel_rfl) h
  obtain ⟨a2, q2, k2⟩ := part_rd (i := 2) (ft := 3) (off := 2) (s := 1) o3 (by kernel_rfl) (by kernel_rfl) h
  obtain ⟨a3, q3, k3⟩ := part_rd (i := 3) (ft := 3) (off := 3) (s := 1) o3 (by kernel_rfl) (by kernel_rfl) h
  obtain ⟨a4, q4, k4⟩ := part_rd (i := 4) (ft := 3) (off := 4) (s := 1) o3 (by kernel_rfl) (by kernel_rfl) h
  obtain ⟨a5, q5, k5⟩ := part_rd (i := 5) (ft := 45) (off := 5) (s := 1) o45 (by kernel_rfl) (by kernel_rfl) h
  have q := (pair_rd q0 (pair_rd q1 (pair_rd q2 (pair_rd q3 (pair_rd q4 q5 rfl) rfl) rfl) rfl) rfl)
  rw [List.drop_zero, List.take_of_length_le (by rw [hl]; exact Nat.le_of_eq (by kernel_rfl))] at q
  exact ⟨Flight.mk a0 a1 a2 a3 a4 a5, q, k0, k1, k2, k3, k4, k5⟩
theorem o4 {H : Type} {enc : TypeId × Value → H} {w : World} {base : Nat} {sp : Nat → Bool} {held : Bool} : Opens enc Tryd.prog w base sp held 4 Rp.bool (fun x => True) := opens_bool Tryd.underlying4
theorem o35 {H : Type} {enc : TypeId × Value → H} {w : World} {base : Nat} {sp : Nat → Bool} {held : Bool} : Opens enc Tryd.prog w base sp held 35 (Rp.sl Rp.str) (fun x => okL (fun x => okS x) x) := opens_sl Tryd.underlying35 (by kernel_rfl) (by decide) o9
theorem o82 {H : Type} {enc : TypeId × Value → H} {w : World} {base : Nat} {sp : Nat → Bool} {held : Bool} : Opens enc Tryd.prog w base sp held 82 rGrain (fun x => okGrain x) := by
  intro fuel cs x h
  have hl := trod_len (i := 0) (ft := 9) (off := 0) (by kernel_rfl) h
  obtain ⟨a0, q0, k0⟩ := part_rd (i := 0) (ft := 9) (off := 0) (s := 1) o9 (by kernel_rfl) (by kernel_rfl) h
  obtain ⟨a1, q1, k1⟩ := part_rd (i := 1) (ft := 3) (off := 1) (s := 1) o3 (by kernel_rfl) (by kernel_rfl) h
  have q := (pair_rd q0 q1 rfl)
  rw [List.drop_zero, List.take_of_length_le (by rw [hl]; exact Nat.le_of_eq (by kernel_rfl))] at q
  exact ⟨Grain.mk a0 a1, q, k0, k1⟩
theorem o48 {H : Type} {enc : TypeId × Value → H} {w : World} {base : Nat} {sp : Nat → Bool} {held : Bool} : Opens enc Tryd.prog w base sp held 48 (Rp.sl rGrain) (fun x => okL (fun x => okGrain x) x) := opens_sl Tryd.underlying48 (by kernel_rfl) (by decide) o82
theorem o50 {H : Type} {enc : TypeId × Value → H} {w : World} {base : Nat} {sp : Nat → Bool} {held : Bool} : Opens enc Tryd.prog w base sp held 50 rMask (fun x => okMask x) := by
  intro fuel cs x h
  have hl := trod_len (i := 0) (ft := 4) (off := 0) (by kernel_rfl) h
  obtain ⟨a0, q0, k0⟩ := part_rd (i := 0) (ft := 4) (off := 0) (s := 1) o4 (by kernel_rfl) (by kernel_rfl) h
  obtain ⟨a1, q1, k1⟩ := part_rd (i := 1) (ft := 3) (off := 1) (s := 1) o3 (by kernel_rfl) (by kernel_rfl) h
  obtain ⟨a2, q2, k2⟩ := part_rd (i := 2) (ft := 35) (off := 2) (s := 1) o35 (by kernel_rfl) (by kernel_rfl) h
  obtain ⟨a3, q3, k3⟩ := part_rd (i := 3) (ft := 48) (off := 3) (s := 1) o48 (by kernel_rfl) (by kernel_rfl) h
  obtain ⟨a4, q4, k4⟩ := part_rd (i := 4) (ft := 3) (off := 4) (s := 1) o3 (by kernel_rfl) (by kernel_rfl) h
  have q := (pair_rd q0 (pair_rd q1 (pair_rd q2 (pair_rd q3 q4 rfl) rfl) rfl) rfl)
  rw [List.drop_zero, List.take_of_length_le (by rw [hl]; exact Nat.le_of_eq (by kernel_rfl))] at q
  exact ⟨Mask.mk a0 a1 a2 a3 a4, q, k0, k1, k2, k3, k4⟩
theorem gTab0 : Tryd.prog.globalNamed "internal/strconv.uint64pow10" = some 0 := by kernel_rfl
theorem gTabType0 : (Tryd.prog.globals[0]?).map (·.type) = some 131 := by kernel_rfl
theorem gc131 : Tryd.prog.cellsOf 131 = 20 := by kernel_rfl
theorem gce131 : Tryd.prog.cellsOf 119 = 1 := by kernel_rfl
theorem gf0 : Rows.fleetMaskMatchesSpecRow.laid.filter (fun x => x.1 == "internal/strconv.uint64pow10") = [("internal/strconv.uint64pow10", Lib.tabData .u64 [1, 10, 100, 1000, 10000, 100000, 1000000, 10000000, 100000000, 1000000000, 10000000000, 100000000000, 1000000000000, 10000000000000, 100000000000000, 1000000000000000, 10000000000000000, 100000000000000000, 1000000000000000000, 10000000000000000000])] := by kernel_rfl
theorem table0 {W : World} (h : laidMetH Tryd.prog Rows.fleetMaskMatchesSpecRow.laid W) : Lib.TabIs Tryd.prog W "internal/strconv.uint64pow10" .u64 [1, 10, 100, 1000, 10000, 100000, 1000000, 10000000, 100000000, 1000000000, 10000000000, 100000000000, 1000000000000, 10000000000000, 100000000000000, 1000000000000000, 10000000000000000, 100000000000000000, 1000000000000000000, 10000000000000000000] := by
  have q := h.filter (fun x => x.1 == "internal/strconv.uint64pow10")
  rw [gf0] at q
  exact Lib.tabIs_of_head (rest := []) gTab0 gTabType0 Tryd.underlying131 Tryd.underlying119 gce131 gc131 q
theorem tabItem0 {W : World} (h : laidMetH Tryd.prog Rows.fleetMaskMatchesSpecRow.laid W) : (Fz.at 0 0 ((Fl.arr 20 (Fl.int .u64)).f G_internal_strconv_uint64pow10)).p (frees [] []) W := by
  have q := table0 h
  have c : Cells W ⟨0, 0, none⟩ ((Fl.arr 20 (Fl.int .u64)).f G_internal_strconv_uint64pow10) := by
    intro i v hv
    rw [Addr.add_none, Nat.zero_add]
    have hi : i < 20 := by
      have h1 := (List.getElem?_eq_some_iff.1 hv).1
      exact h1
    have c := q.cell gTab0 i hi
    have e : v = .int .u64 (([1, 10, 100, 1000, 10000, 100000, 1000000, 10000000, 100000000, 1000000000, 10000000000, 100000000000, 1000000000000, 10000000000000, 100000000000000, 1000000000000000, 10000000000000000, 100000000000000000, 1000000000000000000, 10000000000000000000] : List Int).getD i 0) := by
      match i, hi, hv with
      | 0, _, hv => exact (Option.some.inj hv).symm
      | 1, _, hv => exact (Option.some.inj hv).symm
      | 2, _, hv => exact (Option.some.inj hv).symm
      | 3, _, hv => exact (Option.some.inj hv).symm
      | 4, _, hv => exact (Option.some.inj hv).symm
      | 5, _, hv => exact (Option.some.inj hv).symm
      | 6, _, hv => exact (Option.some.inj hv).symm
      | 7, _, hv => exact (Option.some.inj hv).symm
      | 8, _, hv => exact (Option.some.inj hv).symm
      | 9, _, hv => exact (Option.some.inj hv).symm
      | 10, _, hv => exact (Option.some.inj hv).symm
      | 11, _, hv => exact (Option.some.inj hv).symm
      | 12, _, hv => exact (Option.some.inj hv).symm
      | 13, _, hv => exact (Option.some.inj hv).symm
      | 14, _, hv => exact (Option.some.inj hv).symm
      | 15, _, hv => exact (Option.some.inj hv).symm
      | 16, _, hv => exact (Option.some.inj hv).symm
      | 17, _, hv => exact (Option.some.inj hv).symm
      | 18, _, hv => exact (Option.some.inj hv).symm
      | 19, _, hv => exact (Option.some.inj hv).symm
    rw [e]; exact c
  refine ⟨by simp [frees, bks], ?_, c⟩
  exact World.block_lt_of_cell? _ _ (q.cell gTab0 0 (by decide))
set_option maxHeartbeats 2000000 in
set_option maxRecDepth 100000 in
theorem contract (H : Type) (enc : TypeId × Value → H) (W : World) (base : Nat) (args : Array Value) (ds gs : List (DataW H)) (before : List MemPlace)
    (hval : ∀ (j : Nat) t v, Tryd.f4.params[j]? = some t → args[j]? = some v → Value.okWide Tryd.prog W .any base t v)
    (hW : DataW.Whole enc Tryd.prog Tryd.f4.params.toList Rows.fleetMaskMatchesSpecSpec.vars false W args.toList ds gs before) (hL : laidMetH Tryd.prog Rows.fleetMaskMatchesSpecRow.laid W) :
    Calls Tryd.prog 4 args W fun e W' => ∃ v, e = .returned v ∧ Rows.fleetMaskMatchesSpecSpec.post enc Tryd.prog Tryd.f4 false true false false W args v W' := by
  have hW' := hW
  obtain ⟨p, q, hA0, hV, rfl, hfz, hnd⟩ := hW
  have hA : DataW.TrodAll enc Tryd.prog W 0 (fun _ => true) true Tryd.f4.params.toList args.toList ds p := hA0
  rw [Tryd.params4] at hA hval
  obtain ⟨v0, vs0, d0, ds0, p0, q0, hargs, rfl, rfl, h0, r0⟩ := trodAll_cons hA
  obtain ⟨v1, vs1, d1, ds1, p1, q1, rfl, rfl, rfl, h1, r1⟩ := trodAll_cons r0
  obtain ⟨rfl, rfl, rfl⟩ := trodAll_nil r1
  obtain rfl : args = #[v0, v1] := by cases args; simp_all
  obtain ⟨rfl, rfl⟩ := trodVars_none hV
  have k0 := h0
  have lt0 : ∀ x ∈ p0, x.block < W.heap.size := by obtain ⟨m, hm⟩ := k0; exact DataW.trod_lt m _ _ _ hm
  obtain ⟨fu0, hf0⟩ := h0
  obtain ⟨x0, y0, z0⟩ := o47 fu0 _ _ hf0
  obtain ⟨cs0, rfl⟩ := okWide_agg (t := 47) (by kernel_rfl) (hval 0 47 v0 rfl rfl)
  obtain ⟨u0_228, e0, s0_0⟩ := rFlight_open y0
  obtain rfl : cs0 = [.string (bs x0.Tail), .string (bs x0.Route), .int .i64 x0.Day, .int .i64 x0.From, .int .i64 x0.To, u0_228].toArray := by apply Array.ext'; exact e0
  have k1 := h1
  have lt1 : ∀ x ∈ p1, x.block < W.heap.size := by obtain ⟨m, hm⟩ := k1; exact DataW.trod_lt m _ _ _ hm
  obtain ⟨fu1, hf1⟩ := h1
  obtain ⟨x1, y1, z1⟩ := o50 fu1 _ _ hf1
  obtain ⟨cs1, rfl⟩ := okWide_agg (t := 50) (by kernel_rfl) (hval 1 50 v1 rfl rfl)
  obtain ⟨u1_229, u1_230, e1, s1_0, s1_1⟩ := rMask_open y1
  obtain rfl : cs1 = [.bool x1.Tails, .int .i64 x1.Days, u1_229, u1_230, .int .i64 x1.Least].toArray := by apply Array.ext'; exact e1
  clear hA0
  have HH := (Hd.fresh0 W).fzs [.sl rTrack u0_228 x0.Tracks, .sl Rp.str u1_229 x1.Hide, .sl rGrain u1_230 x1.Grains, .at 0 0 ((Fl.arr 20 (Fl.int .u64)).f G_internal_strconv_uint64pow10)] ⟨slf_all s0_0, slf_all s1_0, slf_all s1_1, tabItem0 hL, trivial⟩
  refine (L.F_law9_FleetMaskMatchesSpec_w x0 x1 u0_228 u1_229 u1_230 true (law_Mask x0 x1 z0 z1) [] [] W HH).mono fun e W' ⟨he, G⟩ => ?_
  subst he
  have bel : Below W.heap.size W W' := G.only.below
  exact ⟨_, rfl, _, _, _, [], _, [], hW', trodAll_mk1 (shut_bool Tryd.underlying4 _), (trodAll_cons_mk (Below.trod laidOut (by kernel_rfl) (of_decide_eq_true (by kernel_rfl)) k0 bel lt0) (trodAll_cons_mk (Below.trod laidOut (by kernel_rfl) (of_decide_eq_true (by kernel_rfl)) k1 bel lt1) trodAll_mk0)), rfl, bel.frame _, fun h => by cases h⟩

/-- A world for the witness. -/
noncomputable def laidWorld (os : Os) : World :=
  { World.holding Tryd.prog os ⟨#[], #[], []⟩ with heap := ((((World.holding Tryd.prog os ⟨#[], #[], []⟩).heap.modify 2 fun
      | .cells _ t frozen => .cells #[.int .u8 0, .int .u8 1, .int .u8 28, .int .u8 2, .int .u8 29, .int .u8 14, .int .u8 24, .int .u8 3, .int .u8 30, .int .u8 22, .int .u8 20, .int .u8 15, .int .u8 25, .int .u8 17, .int .u8 4, .int .u8 8, .int .u8 31, .int .u8 27, .int .u8 13, .int .u8 23, .int .u8 21, .int .u8 19, .int .u8 16, .int .u8 7, .int .u8 26, .int .u8 12, .int .u8 18, .int .u8 6, .int .u8 11, .int .u8 5, .int .u8 10, .int .u8 9] t frozen
      | o => o).modify 3 fun
      | .cells _ t frozen => .cells #[.int .u8 0, .int .u8 1, .int .u8 56, .int .u8 2, .int .u8 57, .int .u8 49, .int .u8 28, .int .u8 3, .int .u8 61, .int .u8 58, .int .u8 42, .int .u8 50, .int .u8 38, .int .u8 29, .int .u8 17, .int .u8 4, .int .u8 62, .int .u8 47, .int .u8 59, .int .u8 36, .int .u8 45, .int .u8 43, .int .u8 51, .int .u8 22, .int .u8 53, .int .u8 39, .int .u8 33, .int .u8 30, .int .u8 24, .int .u8 18, .int .u8 12, .int .u8 5, .int .u8 63, .int .u8 55, .int .u8 48, .int .u8 27, .int .u8 60, .int .u8 41, .int .u8 37, .int .u8 16, .int .u8 46, .int .u8 35, .int .u8 44, .int .u8 21, .int .u8 52, .int .u8 32, .int .u8 23, .int .u8 11, .int .u8 54, .int .u8 26, .int .u8 40, .int .u8 15, .int .u8 34, .int .u8 20, .int .u8 31, .int .u8 10, .int .u8 25, .int .u8 14, .int .u8 19, .int .u8 9, .int .u8 13, .int .u8 8, .int .u8 7, .int .u8 6] t frozen
      | o => o).modify 0 fun
      | .cells _ t frozen => .cells #[.int .u64 1, .int .u64 10, .int .u64 100, .int .u64 1000, .int .u64 10000, .int .u64 100000, .int .u64 1000000, .int .u64 10000000, .int .u64 100000000, .int .u64 1000000000, .int .u64 10000000000, .int .u64 100000000000, .int .u64 1000000000000, .int .u64 10000000000000, .int .u64 100000000000000, .int .u64 1000000000000000, .int .u64 10000000000000000, .int .u64 100000000000000000, .int .u64 1000000000000000000, .int .u64 10000000000000000000] t frozen
      | o => o) }
theorem laid_met (os : Os) : laidMet Tryd.prog Rows.fleetMaskMatchesSpecRow.laid ((laidWorld os).forCall (fun _ _ => 0) ⟨#[], #[Value.agg #[.string ⟨#[]⟩, .string ⟨#[]⟩, .int .i64 0, .int .i64 0, .int .i64 0, .slice none 0 0], Value.agg #[.bool false, .int .i64 0, .slice none 0 0, .slice none 0 0, .int .i64 0]], []⟩).memory :=
  laidMet_of_run' 8 (by kernel_rfl) (by kernel_rfl)
theorem reads (os : Os) {H : Type} (enc : TypeId × Value → H) : ∃ places, DataW.whole enc Tryd.prog ((laidWorld os).forCall (fun _ _ => 0) ⟨#[], #[Value.agg #[.string ⟨#[]⟩, .string ⟨#[]⟩, .int .i64 0, .int .i64 0, .int .i64 0, .slice none 0 0], Value.agg #[.bool false, .int .i64 0, .slice none 0 0, .slice none 0 0, .int .i64 0]], []⟩).memory Tryd.f4.params.toList Rows.fleetMaskMatchesSpecSpec.vars false #[(Value.agg #[.string ⟨#[]⟩, .string ⟨#[]⟩, .int .i64 0, .int .i64 0, .int .i64 0, .slice none 0 0] : Value), Value.agg #[.bool false, .int .i64 0, .slice none 0 0, .slice none 0 0, .int .i64 0]].toList 8 = some ([.agg [.lit (.string []), .lit (.string []), .lit (.int .i64 0), .lit (.int .i64 0), .lit (.int .i64 0), .nil], .agg [.lit (.bool false), .lit (.int .i64 0), .nil, .nil, .lit (.int .i64 0)]], [], places) :=
  ⟨[], by kernel_rfl⟩

set_option maxRecDepth 100000 in
theorem lifted (os : Os) (started : os.Started) (H : Type) (enc : TypeId × Value → H) (F : Stop.Interp) :
    ReturnsInHanded {} Tryd.checked os 4 .any ((OpenSpec.ofChange Rows.fleetMaskMatchesSpecSpec).preRow enc Tryd.prog Tryd.f4 Rows.fleetMaskMatchesSpecRow.domain false Rows.fleetMaskMatchesSpecRow.laid) (((OpenSpec.ofChange Rows.fleetMaskMatchesSpecSpec).at F).post enc Tryd.prog Tryd.f4 false true false false) := by
  obtain ⟨places, hx⟩ := reads os enc
  refine returnsInHanded_of_row (C := Tryd.checked) (s := (OpenSpec.ofChange Rows.fleetMaskMatchesSpecSpec)) own started (by kernel_rfl) Tryd.func4
    (witness_row_at (enc := enc) (C := Tryd.checked) false (laidWorld os) #[Value.agg #[.string ⟨#[]⟩, .string ⟨#[]⟩, .int .i64 0, .int .i64 0, .int .i64 0, .slice none 0 0], Value.agg #[.bool false, .int .i64 0, .slice none 0 0, .slice none 0 0, .int .i64 0]] rfl (by kernel_rfl) (by kernel_rfl) (by kernel_rfl)
      (OpenSpec.preRow_of_cond 8 hx (by kernel_rfl) (fun k hk => by cases hk) (by kernel_rfl) (laid_met os))) ?_
  intro W base args ds gs before hval hW _ _ _ hL _ _
  exact contract H enc W base args ds gs before hval hW hL

theorem said : Rows.FleetMaskMatchesSpecSaid :=
  OpenClaim.holds_of_cond 4 Tryd.f4 rfl rfl rfl rfl rfl rfl rfl ⟨rfl, rfl, rfl, rfl, rfl⟩ rfl rfl rfl rfl rfl (by kernel_rfl) Tryd.func4 (by kernel_rfl)
    (of_decide_eq_true (by kernel_rfl)) (by unfold Func.isWrapper; first | (rw [if_pos (by decide +kernel)]; kernel_rfl) | (rw [if_neg (by decide +kernel)]; exact ⟨rfl, rfl⟩))
    (fun os started H enc _ F => by rw [OpenClaim.pre_eq_preRow]; exact lifted os started H enc F)
theorem plainP (f : FuncId) (fn : Func) (hf : Tryd.pinned.checked.prog.funcNamed "orangebox/orangeboxlaw9.FleetMaskMatchesSpec" = some f) (hfn : Tryd.pinned.checked.prog.funcs[f]? = some fn) :
    false = Tryd.pinned.checked.prog.looks [] ∧ ∀ (j : Nat) t, fn.params[j]? = some t → Tryd.pinned.checked.prog.wantsStandIn t = false := by
  obtain rfl : f = 4 := Option.some.inj ((show Tryd.prog.funcNamed "orangebox/orangeboxlaw9.FleetMaskMatchesSpec" = some 4 by kernel_rfl).symm.trans hf) |>.symm
  obtain rfl : fn = Tryd.f4 := (Option.some.inj (Tryd.func4.symm.trans hfn)).symm
  refine ⟨by kernel_rfl, fun j t ht => ?_⟩
  rw [Tryd.params4] at ht
  have hall : (#[47, 50] : Array TypeId).toList.all (fun t => !Tryd.prog.wantsStandIn t) = true := by kernel_rfl
  have q := List.all_eq_true.1 hall t (Array.mem_toList_iff.2 (Array.mem_of_getElem? ht))
  have q2 : Tryd.prog.wantsStandIn t = false := by simpa using q
  exact q2
theorem card : Rows.FleetMaskMatchesSpecCardSaid :=
  Claim7.holds_tied_plain_at .later [] _ _ _ _ said (fun _ h => by cases h) (by kernel_rfl) (fun _ h => by cases h) fleetMaskMatchesSpec_row_tie rfl ⟨rfl, rfl⟩ (by kernel_rfl) rfl plainP (by kernel_rfl)
end Go.Proofs.YtbjhondbheijiaaDoor.fleetMaskMatchesSpec
