/- Walks: what each function computes, for every argument; no condition but those that stand in the statements. -/
import Derived.Test.YthllgjnlmjpinaaGreatDoorLfQ
import Derived.Test.YthllgjnlmjpinaaGreatDoorLfR
namespace Go.Lf
open Go.RowKit Go.OB Go.ChangeShapes Go.WideShapes Go.ChangeAt
section
variable {H:Type} {enc:TypeId×Value→H} {P:Program} {w:World} {base:Nat} {sp:Nat→Bool} {held:Bool} {B:DataW H→Nat}
structure aRm (B:DataW H→Nat):Prop where
  str: ∀s,s.length≤B (.lit (.string s))
  pos: ∀d,1≤B d
  sl: ∀es sp,(es.map B).sum≤B (.slice es sp)
  agg: ∀ps,(ps.map B).sum≤B (.agg ps)
def aHv (enc:TypeId×Value→H)(P:Program)(w:World)(base:Nat)(sp:Nat→Bool)(held:Bool)(B:DataW H→Nat)(t:TypeId){α:Type}(r:Rp α)(ok:α→Prop)(k:α→Nat):Prop:=
  ∀fuel cs x,DataW.trod enc P w base sp held fuel t cs=some x→ ∃a,r.rd All w cs a∧ok a∧k a≤B x.1
theorem aOd {e : TypeId} {α : Type} {r : Rp α} {ok : α → Prop} {k : α → Nat} {a : Addr} {D : Nat → DataW H} {Pl : Nat → List MemPlace} (he : aHv enc P w base sp held B e r ok k) (len : Nat)
    (hel : ∀ i, i < len → ∃ cs' n, w.cells? base (a.add (i * r.sz)) r.sz = some cs' ∧ DataW.trod enc P w base sp held n e cs' = some (D i, Pl i)) :
    ∀ n, n ≤ len → ∃ (xs : List Value) (l : List α), rows r All w xs l ∧ l.length = n ∧ (∀ k v, xs[k]? = some v → w.cell? (a.add k) = some v) ∧ (∀ x ∈ l, ok x) ∧ (l.map k).sum ≤ (((List.range n).map D).map B).sum
  | 0, _ => ⟨[], [], rfl, rfl, by simp, by simp, by simp⟩
  | n + 1, hn => by
    obtain ⟨xs, l, h1, h2, h3, h4, hs⟩ := aOd he len hel n (by omega)
    obtain ⟨c, m, h5, h6⟩ := hel n (by omega)
    obtain ⟨y, h7, h8, hk⟩ := he _ _ _ h6
    obtain ⟨h9, h10⟩ := aAz h5
    have hx := aI h1
    refine ⟨xs ++ c, l ++ [y], mG h1 (rO h7), by simp [h2], fun k v hv => ?_, fun x hx => ?_, ?_⟩
    · by_cases hk : k < xs.length
      · rw [List.getElem?_append_left hk] at hv; exact h3 k v hv
      · rw [List.getElem?_append_right (by omega)] at hv
        have := h10 _ v hv
        rwa [add_add, show n * r.sz + (k - xs.length) = k by rw [hx, h2] at hk ⊢; omega] at this
    · rcases List.mem_append.1 hx with h | h
      · exact h4 x h
      · obtain rfl := List.mem_singleton.1 h; exact h8
    · rw [List.range_succ]
      simp only [List.map_append, List.sum_append, List.map_cons, List.map_nil, List.sum_cons, List.sum_nil]
      have hk : k y ≤ B (D n) := hk
      omega
theorem opensB_sl {t e : TypeId} {α : Type} {r : Rp α} {ok : α → Prop} {k : α → Nat} (hB : aRm B) (ht : P.underlying t = some (.slice e)) (hc : P.cellsOf e = r.sz) (hpos : 0 < r.sz) (he : aHv enc P w base sp held B e r ok k) :
    aHv enc P w base sp held B t (Rp.sl r) (fun l => okL ok l) (fun l => (l.map k).sum) := by
  intro fuel cs x h
  rcases Deep.open_slice ht h with ⟨rfl, _⟩ | ⟨a, len, cap, m, n, D, Pl, rfl, hb, hl, hm, hmm, hxe, hel⟩
  · exact ⟨[], ⟨_, rfl, SlF.nil⟩, ⟨by simp, by simp⟩, by simp⟩
  · have hle : len ≤ m := by rw [hmm]; split <;> omega
    rw [maxLen_eq] at hm
    obtain ⟨xs, l, h1, h2, h3, h4, hs⟩ := aOd (a := a) (D := D) (Pl := Pl) he len (fun i hi => by
      obtain ⟨c, h1, h2⟩ := hel i (by omega)
      exact ⟨c, n, by rw [← hc]; exact h1, h2⟩) len (Nat.le_refl _)
    have hx := aI h1
    have hsp : 0 < len → a.spot = none ∧ a.block < w.heap.size := by
      intro h0
      have hx0 : 0 < xs.length := by rw [hx, h2]; exact Nat.mul_pos h0 hpos
      have := h3 0 xs[0] (List.getElem?_eq_getElem hx0)
      have e0 : a.add 0 = a := by simp [Addr.add]
      rw [e0] at this
      exact ⟨uN this, World.block_lt_of_cell? _ _ this⟩
    refine ⟨l, ⟨_, rfl, xs, h1, ⟨hx, .inr ⟨a, cap, by rw [h2], by omega, by rw [maxLen_eq]; omega, fun h => (hsp (by omega)).1, h3⟩⟩, fun h b hb => ⟨trivial, ?_⟩⟩, ⟨by omega, h4⟩, ?_⟩
    · have : b = a.block := by simpa [aH, eq_comm] using hb
      rw [this]; exact (hsp (by omega)).2
    · rw [hxe]
      exact Nat.le_trans hs (hB.sl _ _)
end
end Go.Lf
namespace Go.Lf
open Go.RowKit Go.OB Go.ChangeShapes Go.WideShapes Go.ChangeAt
section
variable {H:Type} {enc:TypeId×Value→H} {P:Program} {w:World} {base:Nat} {sp:Nat→Bool} {held:Bool}
def OpB (M:Nat)(enc:TypeId×Value→H)(P:Program)(w:World)(base:Nat)(sp:Nat→Bool)(held:Bool)(t:TypeId){α:Type}(r:Rp α)(ok:α→Prop):Prop:=
  ∀fuel cs x,fuel<M→DataW.trod enc P w base sp held fuel t cs=some x→ ∃a,r.rd All w cs a∧ok a
theorem aTx {e : TypeId} {α : Type} {r : Rp α} {ok : α → Prop} {a : Addr} {f : Nat} (he : ∀ cs d, DataW.trod enc P w base sp held f e cs = some d → ∃ y, r.rd All w cs y ∧ ok y) (len : Nat)
    (hel : ∀ i, i < len → ∃ cs' d, w.cells? base (a.add (i * r.sz)) r.sz = some cs' ∧ DataW.trod enc P w base sp held f e cs' = some d) :
    ∀ n, n ≤ len → ∃ (xs : List Value) (l : List α), rows r All w xs l ∧ l.length = n ∧ (∀ k v, xs[k]? = some v → w.cell? (a.add k) = some v) ∧ ∀ x ∈ l, ok x
  | 0, _ => ⟨[], [], rfl, rfl, by simp, by simp⟩
  | n + 1, hn => by
    obtain ⟨xs, l, h1, h2, h3, h4⟩ := aTx he len hel n (by omega)
    obtain ⟨c, d, h5, h6⟩ := hel n (by omega)
    obtain ⟨y, h7, h8⟩ := he _ _ h6
    obtain ⟨h9, h10⟩ := aAz h5
    have hx := aI h1
    refine ⟨xs ++ c, l ++ [y], mG h1 (rO h7), by simp [h2], fun k v hv => ?_, fun x hx => ?_⟩
    · by_cases hk : k < xs.length
      · rw [List.getElem?_append_left hk] at hv; exact h3 k v hv
      · rw [List.getElem?_append_right (by omega)] at hv
        have := h10 _ v hv
        rwa [add_add, show n * r.sz + (k - xs.length) = k by rw [hx, h2] at hk ⊢; omega] at this
    · rcases List.mem_append.1 hx with h | h
      · exact h4 x h
      · obtain rfl := List.mem_singleton.1 h; exact h8
theorem opB_sl {M : Nat} {t e : TypeId} {α : Type} {r : Rp α} {ok : α → Prop} (ht : P.underlying t = some (.slice e)) (hc : P.cellsOf e = r.sz) (hpos : 0 < r.sz) (he : OpB M enc P w base sp held e r ok) :
    OpB (M + 1) enc P w base sp held t (Rp.sl r) (fun l => l.length ≤ 9223372036854775807 ∧ ∀ x ∈ l, ok x) := by
  intro fuel cs x hf h
  rcases DataW.trod_slice ht h with ⟨rfl, _⟩ | ⟨a, len, cap, elems, rest, n, rfl, rfl, rfl, hb, hl, hm, hlen, hel, _, _⟩
  · exact ⟨[], ⟨_, rfl, SlF.nil⟩, by simp, by simp⟩
  · rw [maxLen_eq] at hm
    obtain ⟨xs, l, h1, h2, h3, h4⟩ := aTx (a := a) (fun cs d hd => he n cs d (by omega) hd) len (fun i hi => by
      have hi2 : i < elems.length := by omega
      have q := hel i hi
      rw [List.getElem?_eq_getElem hi2, Option.bind_eq_some_iff] at q
      obtain ⟨c, q1, q2⟩ := q
      exact ⟨c, _, by rw [← hc]; exact q1, q2⟩) len (Nat.le_refl _)
    have hx := aI h1
    have hsp : 0 < len → a.spot = none ∧ a.block < w.heap.size := by
      intro h0
      have hx0 : 0 < xs.length := by rw [hx, h2]; exact Nat.mul_pos h0 hpos
      have := h3 0 xs[0] (List.getElem?_eq_getElem hx0)
      have e0 : a.add 0 = a := by simp [Addr.add]
      rw [e0] at this
      exact ⟨uN this, World.block_lt_of_cell? _ _ this⟩
    refine ⟨l, ⟨_, rfl, xs, h1, ⟨hx, .inr ⟨a, cap, by rw [h2], by omega, by rw [maxLen_eq]; omega, fun h => (hsp (by omega)).1, h3⟩⟩, fun h b hb => ⟨trivial, ?_⟩⟩, by omega, h4⟩
    have : b = a.block := by simpa [aH, eq_comm] using hb
    rw [this]; exact (hsp (by omega)).2
theorem part_rdB {M : Nat} {t ft : TypeId} {α : Type} {r : Rp α} {ok : α → Prop} {i off fuel s : Nat} {cs : List Value} {x : DataW H × List MemPlace} (he : OpB M enc P w base sp held ft r ok) (hf : tZ P t i = some (ft, off)) (hc : P.cellsOf ft = s) (hM : fuel ≤ M) (h : DataW.trod enc P w base sp held fuel t cs = some x) :
    ∃ a, r.rd All w ((cs.drop off).take s) a ∧ ok a := by
 unfold tZ at hf;split at hf;rename_i fs hu;obtain ⟨f, hf1, hf2⟩ := Option.map_eq_some_iff.1 hf;obtain ⟨xs, n, rfl, _, _, hlen, hget⟩ := DataW.trod_struct hu h;have hi := hget i f hf1;have hlt : i < xs.length := by rw [hlen]; exact (Array.getElem?_eq_some_iff.1 hf1).1
 rw [List.getElem?_eq_getElem hlt] at hi;have e1 : f.type = ft := congrArg Prod.fst hf2;have e2 : f.offset = off := congrArg Prod.snd hf2;rw [e1, e2, hc] at hi;exact he n _ _ (by omega) hi;cases hf
theorem opens_of {t:TypeId}{α:Type}{r:Rp α}{ok:α→Prop}(h: ∀M,OpB M enc P w base sp held t r ok):aF enc P w base sp held t r ok:=
  fun fuel cs x hx=>h (fuel+1) fuel cs x (Nat.lt_succ_self _) hx
end
end Go.Lf
namespace Go.Lf
open Go.RowKit Go.OB Go.ChangeShapes Go.WideShapes Go.ChangeAt
section
variable {H:Type} {enc:TypeId×Value→H} {P:Program} {w:World} {base:Nat} {sp:Nat→Bool} {held:Bool} {B:DataW H→Nat}
theorem opensB_of {t:TypeId}{α:Type}{r:Rp α}{ok:α→Prop}(hB:aRm B)(h:aF enc P w base sp held t r ok):aHv enc P w base sp held B t r ok (fun _=>1):=by
 intro fuel cs x hx;obtain ⟨a,h1,h2⟩:=h fuel cs x hx;exact ⟨a,h1,h2,hB.pos _⟩
theorem aUu {α:Type}: ∀l:List α,(l.map fun _=>1).sum=l.length
  | []=>rfl
  | x :: l=>by rw [List.map_cons,List.sum_cons,aUu l,List.length_cons]; omega
end
end Go.Lf
