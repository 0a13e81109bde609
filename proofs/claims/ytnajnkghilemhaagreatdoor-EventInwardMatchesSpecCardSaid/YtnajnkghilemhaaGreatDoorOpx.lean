/- What arguments read as, in the words of the lifting. -/
import Derived.Test.YtnajnkghilemhaaGreatDoorLfP
import Derived.Test.YtnajnkghilemhaaGreatDoorOpn
import Derived.Deep.Slices
namespace Go.Lf
open Go.RowKit Go.OB Go.ChangeShapes Go.WideShapes Go.ChangeAt
section
variable {H : Type} {enc : TypeId × Value → H} {P : Program} {w : World} {base : Nat} {sp : Nat → Bool} {held : Bool}
def All (_ : Nat) : Prop := True
def Opens (enc : TypeId × Value → H) (P : Program) (w : World) (base : Nat) (sp : Nat → Bool) (held : Bool) (t : TypeId) {α : Type} (r : Rp α) (ok : α → Prop) : Prop :=
  ∀ fuel cs x, DataW.trod enc P w base sp held fuel t cs = some x → ∃ a, r.rd All w cs a ∧ ok a
theorem opens_int {t : TypeId} {k : IntKind} (ht : P.underlying t = some (.int k)) : Opens enc P w base sp held t (Rp.int k) (fun z => (Lit.int k z).wf = true) := by
  intro fuel cs x h
  obtain ⟨z, h1, _, h2⟩ := DataW.trod_int ht h
  exact ⟨z, h1, h2⟩
theorem opens_str {t : TypeId} (ht : P.underlying t = some .string) : Opens enc P w base sp held t Rp.str (fun s => s.length ≤ 9223372036854775807) := by
  intro fuel cs x h
  obtain ⟨s, h1, _, h2⟩ := DataW.trod_string ht h
  refine ⟨s.data.toList, ?_, ?_⟩
  · rw [h1]; rfl
  · have h3 := h2
    rw [maxLen_eq] at h3
    show s.data.toList.length ≤ _
    rw [Array.length_toList]
    exact h3
theorem cells_some {a : Addr} {n : Nat} {cs : List Value} (h : w.cells? base a n = some cs) : cs.length = n ∧ ∀ i v, cs[i]? = some v → w.cell? (a.add i) = some v := by
  obtain ⟨_, h1, h2⟩ := World.cells?_some h
  refine ⟨h1, fun i v hv => ?_⟩
  have hi : i < n := by have := (List.getElem?_eq_some_iff.1 hv).1; omega
  rw [h2 i hi]; exact hv
theorem add_add (a : Addr) (p q : Nat) : (a.add p).add q = a.add (p + q) := by
  unfold Addr.add
  by_cases h6 : p = 0
  · subst h6; simp
  · by_cases h7 : q = 0
    · subst h7; simp
    · rw [if_neg h6, if_neg h7, if_neg (by omega)]; simp [Nat.add_assoc]
theorem spot_of_cell {a : Addr} {v : Value} (h : w.cell? a = some v) : a.spot = none := by
  unfold World.cell? at h
  split at h
  · split at h
    · cases h
    · rename_i hs; simpa using hs
  · cases h
def fieldTO (P : Program) (t : TypeId) (i : Nat) : Option (TypeId × Nat) :=
  match P.underlying t with
  | some (.struct fs) => (fs[i]?).map fun f => (f.type, f.offset)
  | _ => none
theorem trod_field {t ft : TypeId} {i off fuel : Nat} {cs : List Value} {x : DataW H × List MemPlace} (hf : fieldTO P t i = some (ft, off)) (h : DataW.trod enc P w base sp held fuel t cs = some x) :
    ∃ n y, DataW.trod enc P w base sp held n ft ((cs.drop off).take (P.cellsOf ft)) = some y := by
  unfold fieldTO at hf
  split at hf
  · rename_i fs hu
    obtain ⟨f, hf1, hf2⟩ := Option.map_eq_some_iff.1 hf
    obtain ⟨xs, n, rfl, _, _, hlen, hget⟩ := DataW.trod_struct hu h
    have hi := hget i f hf1
    have hlt : i < xs.length := by rw [hlen]; exact (Array.getElem?_eq_some_iff.1 hf1).1
    rw [List.getElem?_eq_getElem hlt] at hi
    have e1 : f.type = ft := congrArg Prod.fst hf2
    have e2 : f.offset = off := congrArg Prod.snd hf2
    rw [e1, e2] at hi
    exact ⟨n, _, hi⟩
  · cases hf
theorem trod_len {t ft : TypeId} {i off fuel : Nat} {cs : List Value} {x : DataW H × List MemPlace} (hf : fieldTO P t i = some (ft, off)) (h : DataW.trod enc P w base sp held fuel t cs = some x) : cs.length = P.cellsOf t := by
  unfold fieldTO at hf
  split at hf
  · rename_i fs hu
    obtain ⟨xs, n, _, _, hl, _⟩ := DataW.trod_struct hu h
    exact hl
  · cases hf
theorem part_rd {t ft : TypeId} {α : Type} {r : Rp α} {ok : α → Prop} {i off fuel s : Nat} {cs : List Value} {x : DataW H × List MemPlace} (he : Opens enc P w base sp held ft r ok) (hf : fieldTO P t i = some (ft, off)) (hc : P.cellsOf ft = s) (h : DataW.trod enc P w base sp held fuel t cs = some x) :
    ∃ a, r.rd All w ((cs.drop off).take s) a ∧ ok a := by
  obtain ⟨n, y, h1⟩ := trod_field hf h
  rw [hc] at h1
  exact he _ _ _ h1
theorem pair_rd {α β : Type} {a : Rp α} {b : Rp β} {F : Nat → Prop} {cs : List Value} {o m s u : Nat} {x : α} {y : β} (hx : a.rd F w ((cs.drop o).take s) x) (hy : b.rd F w ((cs.drop m).take u) y) (e : o + s = m) : (Rp.pair a b).rd F w ((cs.drop o).take (s + u)) (x, y) := by
  subst e
  refine ⟨_, _, ?_, hx, hy⟩
  rw [List.take_add, List.drop_drop]
end
end Go.Lf
namespace Go.Lf
open Go.RowKit Go.OB Go.ChangeShapes Go.WideShapes Go.ChangeAt
def i64 (z : Int) : Prop := -9223372036854775808 ≤ z ∧ z ≤ 9223372036854775807
def okS (s : Str) : Prop := s.length ≤ 9223372036854775807
theorem opens_i64 {H : Type} {enc : TypeId × Value → H} {P : Program} {w : World} {base : Nat} {sp : Nat → Bool} {held : Bool} {t : TypeId} (ht : P.underlying t = some (.int .i64)) : Opens enc P w base sp held t (Rp.int .i64) (fun z => i64 z) := by
  intro fuel cs x h
  obtain ⟨z, h1, h2⟩ := opens_int ht fuel cs x h
  exact ⟨z, h1, bounds_i64 h2⟩
def isAgg? (P : Program) (t : TypeId) : Bool := match P.underlying t with
  | some (.struct _) => true
  | _ => false
theorem okWide_agg {P : Program} {w : World} {r : Reach} {base : Nat} {t : TypeId} {v : Value} (ht : isAgg? P t = true) (h : Value.okWide P w r base t v) : ∃ cs, v = .agg cs := by
  unfold isAgg? at ht
  unfold Value.okWide at h
  split at ht
  · rename_i fs hu
    rw [hu] at h
    obtain ⟨cs, h1, _⟩ := h
    exact ⟨cs, h1⟩
  · cases ht
theorem slf_all {α : Type} {r : Rp α} {w : World} {v : Value} {l : List α} (h : SlF r All w v l) : SlF r (frees [] []) w v l :=
  SlF.mono (fun b _ _ => ⟨⟨by simp, by simp [bks]⟩, rfl⟩) h
theorem Hd.fresh0 (w : World) : Hd [] w w [] [] := ⟨Only.refl _ w, by simp, by simp, by simp [bks], by simp⟩
end Go.Lf
