/- What an argument that is a frame reads as. -/
import Derived.Test.YtafgmocdnjdmoaaDoorOpn
import Derived.Test.YtafgmocdnjdmoaaDoorFrm2
namespace Go.Fr1
open Go.RowKit Go.ChangeShapes Go.WideShapes Go.ChangeAt Go.OB
variable {H : Type} {enc : TypeId × Value → H} {P : Program} {w : World} {base : Nat} {sp : Nat → Bool} {held : Bool} {r : Reach} {b0 : Nat} {t e : TypeId} {v : Value} {d : DataW H} {ps : List MemPlace} {k : IntKind}
theorem lt_u16 {z : Int} (h : (Lit.int .u16 z).wf = true) : 0 ≤ z ∧ z < 65536 := by
  simp [Lit.wf, IntKind.min, IntKind.max, IntKind.signed, IntKind.bits] at h; omega
theorem lt_u8 {z : Int} (h : (Lit.int .u8 z).wf = true) : 0 ≤ z ∧ z < 256 := by
  simp [Lit.wf, IntKind.min, IntKind.max, IntKind.signed, IntKind.bits] at h; omega
theorem nat_of {k : IntKind} {m : Nat} {zs : List Int} (hm : 0 < m) (h : ∀ z ∈ zs, 0 ≤ z ∧ z < m) : zs.map (Value.int k) = lst k (zs.map Int.toNat) ∧ ∀ i, wd (zs.map Int.toNat) i < m := by
  constructor
  · simp only [lst, List.map_map]
    apply List.map_congr_left
    intro z hz
    have := (h z hz).1
    simp only [Function.comp]
    rw [Int.toNat_of_nonneg this]
  · intro i
    unfold wd
    rw [List.getD_eq_getElem?_getD, List.getElem?_map]
    cases hi : zs[i]? with
    | none => simpa using hm
    | some z => have := h z (List.mem_of_getElem? hi); simp; omega
theorem open_words {n : Nat} (ht : P.underlying t = some (.array n e)) (he : P.underlying e = some (.int .u16)) (hce : P.cellsOf e = 1) (hct : P.cellsOf t = n) (hv : Value.okWide P w r b0 t v) (hd : DataW.Trod enc P w base sp held t v d ps) :
    ∃ f : List Nat, v = .agg (wds f).toArray ∧ f.length = n ∧ Small f := by
  obtain ⟨zs, rfl, hl, hw⟩ := open_arr ht he hce hct hv hd
  obtain ⟨h1, h2⟩ := nat_of (k := .u16) (m := 65536) (by decide) (fun z hz => lt_u16 (hw z hz))
  exact ⟨_, by rw [h1]; rfl, by simpa using hl, h2⟩
theorem open_bytes (ht : P.underlying t = some (.slice e)) (he : P.underlying e = some (.int .u8)) (hc : P.cellsOf e = 1) (hv : Value.okWide P w r b0 t v) (hd : DataW.Trod enc P w base sp held t v d ps) :
    ∃ (f : List Nat) (m : Nat), f.length = m ∧ SlR w v 1 m (bys f) ∧ Byte f ∧ (m = 0 ∨ ∃ el sp, d = .slice el sp ∧ m ≤ el.length + sp.length) := by
  obtain ⟨zs, m, hl, hs, hw, hsz⟩ := open_slr ht he hc hv hd
  obtain ⟨h1, h2⟩ := nat_of (k := .u8) (m := 256) (by decide) (fun z hz => lt_u8 (hw z hz))
  exact ⟨_, m, by simpa using hl, by rw [h1] at hs; exact hs, h2, hsz⟩
end Go.Fr1
