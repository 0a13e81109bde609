/- Walks: what each function computes, for every argument; no condition but those that stand in the statements. -/
import Derived.Test.YthllgjnlmjpinaaGreatDoorLfQ
import Derived.Test.YthllgjnlmjpinaaGreatDoorLfR
namespace Go.Lf
open Go.RowKit Go.OB Go.ChangeShapes Go.WideShapes Go.ChangeAt
section
variable {H:Type} {enc:TypeId×Value→H} {P:Program} {w:World} {base:Nat} {sp:Nat→Bool} {held:Bool}
def OpB (M:Nat)(enc:TypeId×Value→H)(P:Program)(w:World)(base:Nat)(sp:Nat→Bool)(held:Bool)(t:TypeId){α:Type}(r:Rp α)(ok:α→Prop):Prop:=
  ∀fuel cs x,fuel<M→DataW.trod enc P w base sp held fuel t cs=some x→ ∃a,r.rd All w cs a∧ok a
theorem aQu {e : TypeId} {α : Type} {r : Rp α} {ok : α → Prop} {a : Addr} {f : Nat} (he : ∀ cs d, DataW.trod enc P w base sp held f e cs = some d → ∃ y, r.rd All w cs y ∧ ok y) (len : Nat)
    (hel : ∀ i, i < len → ∃ cs' d, w.cells? base (a.add (i * r.sz)) r.sz = some cs' ∧ DataW.trod enc P w base sp held f e cs' = some d) :
    ∀ n, n ≤ len → ∃ (xs : List Value) (l : List α), rows r All w xs l ∧ l.length = n ∧ (∀ k v, xs[k]? = some v → w.cell? (a.add k) = some v) ∧ ∀ x ∈ l, ok x
  | 0, _ => ⟨[], [], rfl, rfl, by simp, by simp⟩
  | n + 1, hn => by
    obtain ⟨xs, l, h1, h2, h3, h4⟩ := aQu he len hel n (by omega)
    obtain ⟨c, d, h5, h6⟩ := hel n (by omega)
    obtain ⟨y, h7, h8⟩ := he _ _ h6
    obtain ⟨h9, h10⟩ := aFo h5
    have hx := kL h1
    refine ⟨xs ++ c, l ++ [y], mG h1 (sJ h7), by simp [h2], fun k v hv => ?_, fun x hx => ?_⟩
    · by_cases hk : k < xs.length
      · rw [List.getElem?_append_left hk] at hv; exact h3 k v hv
      · rw [List.getElem?_append_right (by omega)] at hv
        have := h10 _ v hv
        rwa [add_add, show n * r.sz + (k - xs.length) = k by rw [hx, h2] at hk ⊢; omega] at this
    · rcases List.mem_append.1 hx with h | h
      · exact h4 x h
      · obtain rfl := List.mem_singleton.1 h; exact h8
theorem opB_sl {M : Nat} {t e : TypeId} {α : Type} {r : Rp α} {ok : α → Prop} (ht : P.underlying t = some (.slice e)) (hc : P.cellsOf e = r.sz) (hpos : 0 < r.sz) (he : OpB M enc P w base sp held e r ok) :
    OpB (M + 1) enc P w base sp held t (Rp.sl r) (fun l => l.length ≤ 9223372036854775807 ∧ ∀ x ∈ l, ok x) := by
  intro fuel cs x hf h
  rcases DataW.trod_slice ht h with ⟨rfl, _⟩ | ⟨a, len, cap, elems, rest, n, rfl, rfl, rfl, hb, hl, hm, hlen, hel, _, _⟩
  · exact ⟨[], ⟨_, rfl, SlF.nil⟩, by simp, by simp⟩
  · rw [maxLen_eq] at hm
    obtain ⟨xs, l, h1, h2, h3, h4⟩ := aQu (a := a) (fun cs d hd => he n cs d (by omega) hd) len (fun i hi => by
      have hi2 : i < elems.length := by omega
      have q := hel i hi
      rw [List.getElem?_eq_getElem hi2, Option.bind_eq_some_iff] at q
      obtain ⟨c, q1, q2⟩ := q
      exact ⟨c, _, by rw [← hc]; exact q1, q2⟩) len (Nat.le_refl _)
    have hx := kL h1
    have hsp : 0 < len → a.spot = none ∧ a.block < w.heap.size := by
      intro h0
      have hx0 : 0 < xs.length := by rw [hx, h2]; exact Nat.mul_pos h0 hpos
      have := h3 0 xs[0] (List.getElem?_eq_getElem hx0)
      have e0 : a.add 0 = a := by simp [Addr.add]
      rw [e0] at this
      exact ⟨wS this, World.block_lt_of_cell? _ _ this⟩
    refine ⟨l, ⟨_, rfl, xs, h1, ⟨hx, .inr ⟨a, cap, by rw [h2], by omega, by rw [maxLen_eq]; omega, fun h => (hsp (by omega)).1, h3⟩⟩, fun h b hb => ⟨trivial, ?_⟩⟩, by omega, h4⟩
    have : b = a.block := by simpa [bM, eq_comm] using hb
    rw [this]; exact (hsp (by omega)).2
theorem part_rdB {M : Nat} {t ft : TypeId} {α : Type} {r : Rp α} {ok : α → Prop} {i off fuel s : Nat} {cs : List Value} {x : DataW H × List MemPlace} (he : OpB M enc P w base sp held ft r ok) (hf : qZ P t i = some (ft, off)) (hc : P.cellsOf ft = s) (hM : fuel ≤ M) (h : DataW.trod enc P w base sp held fuel t cs = some x) :
    ∃ a, r.rd All w ((cs.drop off).take s) a ∧ ok a := by
  unfold qZ at hf
  split at hf
  · rename_i fs hu
    obtain ⟨f, hf1, hf2⟩ := Option.map_eq_some_iff.1 hf
    obtain ⟨xs, n, rfl, _, _, hlen, hget⟩ := DataW.trod_struct hu h
    have hi := hget i f hf1
    have hlt : i < xs.length := by rw [hlen]; exact (Array.getElem?_eq_some_iff.1 hf1).1
    rw [List.getElem?_eq_getElem hlt] at hi
    have e1 : f.type = ft := congrArg Prod.fst hf2
    have e2 : f.offset = off := congrArg Prod.snd hf2
    rw [e1, e2, hc] at hi
    exact he n _ _ (by omega) hi
  · cases hf
theorem opens_of {t:TypeId}{α:Type}{r:Rp α}{ok:α→Prop}(h: ∀M,OpB M enc P w base sp held t r ok):bF enc P w base sp held t r ok:=
  fun fuel cs x hx=>h (fuel+1) fuel cs x (Nat.lt_succ_self _) hx
end
end Go.Lf
