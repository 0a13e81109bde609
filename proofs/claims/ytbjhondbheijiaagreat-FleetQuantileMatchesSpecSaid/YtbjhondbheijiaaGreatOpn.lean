/- What an argument reads as, in the own words. -/
import Derived.Test.YtbjhondbheijiaaGreatOps4
import Derived.OpenShut
import Derived.ProofKit
import Derived.Lib.LaidTab
namespace Go.OB
open Go.RowKit Go.ChangeShapes Go.WideShapes Go.ChangeAt
variable {H : Type} {enc : TypeId × Value → H} {P : Program} {w : World} {base : Nat} {sp : Nat → Bool} {held : Bool} {r : Reach} {b0 : Nat} {t e : TypeId} {v : Value} {d : DataW H} {ps : List MemPlace} {k : IntKind}
/-- A slice of numbers. -/
theorem open_slr (ht : P.underlying t = some (.slice e)) (he : P.underlying e = some (.int k)) (hc : P.cellsOf e = 1) (hv : Value.okWide P w r b0 t v) (hd : DataW.Trod enc P w base sp held t v d ps) :
    ∃ (zs : List Int) (m : Nat), zs.length = m ∧ SlR w v 1 m (zs.map (Value.int k)) ∧ (∀ z ∈ zs, (Lit.int k z).wf = true) ∧ (m = 0 ∨ ∃ el sp, d = .slice el sp ∧ m ≤ el.length + sp.length) := by
  obtain ⟨a, len, cap, rfl⟩ := okWide_slice ht hv
  obtain ⟨fuel, hf⟩ := hd
  rcases open_ints ht he hc hf with ⟨hcs, _⟩ | ⟨x, l, c, zs, hcs, _, hl, hm, hz, hx, hcell, hwz⟩
  · simp [Value.cells] at hcs
    obtain ⟨rfl, rfl, rfl⟩ := hcs
    exact ⟨[], 0, rfl, SlR.nil, by simp, .inl rfl⟩
  · simp [Value.cells] at hcs
    obtain ⟨rfl, rfl, rfl⟩ := hcs
    have hlz : len ≤ zs.length := by rw [hz]; split <;> omega
    refine ⟨zs.take len, len, by simp; omega, ⟨by simp; omega, .inr ⟨x, cap, rfl, hl, hm, fun h0 => ?_, fun i u hu => ?_⟩⟩, fun z hz => hwz z (List.mem_of_mem_take hz), .inr ⟨_, _, congrArg Prod.fst hx, by simp [lits]; omega⟩⟩
    · have := hcell 0 (by omega)
      have e0 : x.add 0 = x := by simp [Addr.add]
      rw [e0] at this
      unfold World.cell? at this
      split at this
      · split at this
        · cases this
        · rename_i h; simpa using h
      · cases this
    · have hi : i < len := by
        have := (List.getElem?_eq_some_iff.1 hu).1
        simp at this; omega
      rw [hcell i (by omega)]
      simp [hi] at hu
      obtain ⟨z, hz1, rfl⟩ := hu
      simp [List.getD, hz1]
/-- An array of numbers, by its cells. -/
theorem arr_cells {n fuel : Nat} {cs : List Value} {x : DataW H × List MemPlace} (ht : P.underlying t = some (.array n e)) (he : P.underlying e = some (.int k)) (hce : P.cellsOf e = 1) (hct : P.cellsOf t = n) (h : DataW.trod enc P w base sp held fuel t cs = some x) :
    ∃ zs : List Int, cs = zs.map (Value.int k) ∧ zs.length = n ∧ ∀ z ∈ zs, (Lit.int k z).wf = true := by
  cases fuel with
  | zero => simp [DataW.trod] at h
  | succ fuel =>
    simp only [DataW.trod, ht, hce, hct, Nat.mul_one] at h
    split at h
    · rename_i hl
      obtain ⟨xs, hm, hx⟩ := Option.map_eq_some_iff.1 h
      have hxl : xs.length = n := by simpa using Lib.mapM_length hm
      have each : ∀ i, i < n → ∃ z : Int, cs[i]? = some (.int k z) ∧ (Lit.int k z).wf = true := by
        intro i hi
        obtain ⟨b, hb, hf⟩ := Lib.mapM_at hm i i (by simp [hi])
        obtain ⟨z, hc, _, hw⟩ := DataW.trod_int he hf
        refine ⟨z, ?_, hw⟩
        have := congrArg (·[0]?) hc
        simpa [List.getElem?_take, List.getElem?_drop] using this
      let f : Value → Int := fun v => match v with
        | .int _ z => z
        | _ => 0
      refine ⟨cs.map f, ?_, by simp [hl], ?_⟩
      · apply List.ext_getElem?
        intro i
        by_cases hi : i < n
        · obtain ⟨z, hz, _⟩ := each i hi
          simp [hz, f]
        · rw [List.getElem?_eq_none (by omega), List.getElem?_eq_none (by simp; omega)]
      · intro z hz
        obtain ⟨v, hv, rfl⟩ := List.mem_map.1 hz
        obtain ⟨i, hi⟩ := List.getElem?_of_mem hv
        obtain ⟨z, hz, hw⟩ := each i (by have := (List.getElem?_eq_some_iff.1 hi).1; omega)
        rw [hi] at hz
        cases Option.some.inj hz
        exact hw
    · cases h
theorem open_arr {n : Nat} (ht : P.underlying t = some (.array n e)) (he : P.underlying e = some (.int k)) (hce : P.cellsOf e = 1) (hct : P.cellsOf t = n) (hv : Value.okWide P w r b0 t v) (hd : DataW.Trod enc P w base sp held t v d ps) :
    ∃ zs : List Int, v = .agg (zs.map (Value.int k)).toArray ∧ zs.length = n ∧ ∀ z ∈ zs, (Lit.int k z).wf = true := by
  simp only [Value.okWide, ht] at hv
  obtain ⟨cs, rfl, _⟩ := hv
  obtain ⟨fuel, hf⟩ := hd
  obtain ⟨zs, h1, h2, h3⟩ := arr_cells ht he hce hct hf
  refine ⟨zs, ?_, h2, h3⟩
  have : cs.toList = zs.map (Value.int k) := h1
  rw [← this]
end Go.OB
