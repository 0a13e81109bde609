/- An argument that is an array of arrays of words. -/
import Derived.Test.YtafgmocdnjdmoaaDoorOpf
namespace Go.Fr1
open Go.RowKit Go.ChangeShapes Go.WideShapes Go.ChangeAt Go.OB
variable {H : Type} {enc : TypeId × Value → H} {P : Program} {w : World} {base : Nat} {sp : Nat → Bool} {held : Bool} {r : Reach} {b0 : Nat} {t e e2 : TypeId} {v : Value} {d : DataW H} {ps : List MemPlace} {k : IntKind}
theorem arrs_cells {n m fuel : Nat} {cs : List Value} {x : DataW H × List MemPlace} (ht : P.underlying t = some (.array n e)) (he : P.underlying e = some (.array m e2)) (he2 : P.underlying e2 = some (.int k)) (hce2 : P.cellsOf e2 = 1) (hce : P.cellsOf e = m) (hm : 0 < m) (hct : P.cellsOf t = n * m) (h : DataW.trod enc P w base sp held fuel t cs = some x) :
    ∃ zs : List Int, cs = zs.map (Value.int k) ∧ zs.length = n * m ∧ ∀ z ∈ zs, (Lit.int k z).wf = true := by
  cases fuel with
  | zero => simp [DataW.trod] at h
  | succ fuel =>
    simp only [DataW.trod, ht, hce, hct] at h
    split at h
    · rename_i hl
      obtain ⟨xs, hmm, hx⟩ := Option.map_eq_some_iff.1 h
      have hxl : xs.length = n := by simpa using Lib.mapM_length hmm
      have each : ∀ i, i < n * m → ∃ z : Int, cs[i]? = some (.int k z) ∧ (Lit.int k z).wf = true := by
        intro i hi
        have hin : i / m < n := Nat.div_lt_of_lt_mul (by rw [Nat.mul_comm]; exact hi)
        have hmd : i % m < m := Nat.mod_lt _ hm
        obtain ⟨b, hb, hf⟩ := Lib.mapM_at hmm (i / m) (i / m) (by simp [hin])
        obtain ⟨zs, h1, h2, h3⟩ := arr_cells he he2 hce2 hce hf
        have hz : zs[i % m]? = some (zs[i % m]'(by omega)) := List.getElem?_eq_getElem (by omega)
        refine ⟨zs[i % m]'(by omega), ?_, h3 _ (List.getElem_mem _)⟩
        have := congrArg (·[i % m]?) h1
        simp only [List.getElem?_map, hz, Option.map_some, List.getElem?_take, if_pos hmd, List.getElem?_drop] at this
        rw [← this]
        congr 1
        rw [Nat.mul_comm]; exact (Nat.div_add_mod i m).symm
      let f : Value → Int := fun v => match v with
        | .int _ z => z
        | _ => 0
      refine ⟨cs.map f, ?_, by simp [hl], ?_⟩
      · apply List.ext_getElem?
        intro i
        by_cases hi : i < n * m
        · obtain ⟨z, hz, _⟩ := each i hi
          simp [hz, f]
        · rw [List.getElem?_eq_none (by omega), List.getElem?_eq_none (by simp; omega)]
      · intro z hz
        obtain ⟨v, hv, rfl⟩ := List.mem_map.1 hz
        obtain ⟨i, hi⟩ := List.getElem?_of_mem hv
        obtain ⟨z, hz, hw⟩ := each i (by have := (List.getElem?_eq_some_iff.1 hi).1; omega)
        rw [hi] at hz
        cases Option.some.inj hz
        exact hw
    · cases h
theorem open_arrs {n m : Nat} (ht : P.underlying t = some (.array n e)) (he : P.underlying e = some (.array m e2)) (he2 : P.underlying e2 = some (.int .u16)) (hce2 : P.cellsOf e2 = 1) (hce : P.cellsOf e = m) (hm : 0 < m) (hct : P.cellsOf t = n * m) (hv : Value.okWide P w r b0 t v) (hd : DataW.Trod enc P w base sp held t v d ps) :
    ∃ f : List Nat, v = .agg (wds f).toArray ∧ f.length = n * m ∧ Small f := by
  simp only [Value.okWide, ht] at hv
  obtain ⟨cs, rfl, _⟩ := hv
  obtain ⟨fuel, hf⟩ := hd
  obtain ⟨zs, h1, h2, h3⟩ := arrs_cells ht he he2 hce2 hce hm hct hf
  have hc : cs.toList = zs.map (Value.int .u16) := h1
  obtain ⟨p1, p2⟩ := nat_of (k := .u16) (m := 65536) (by decide) (fun z hz => lt_u16 (h3 z hz))
  refine ⟨_, ?_, by simpa using h2, p2⟩
  rw [p1] at hc
  show Value.agg cs = .agg (lst .u16 _).toArray
  rw [← hc]
end Go.Fr1
