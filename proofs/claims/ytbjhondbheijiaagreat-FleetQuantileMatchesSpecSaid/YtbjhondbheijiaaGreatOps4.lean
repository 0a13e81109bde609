/- Literals of slices and structs; more of what is owned. -/
import Derived.Test.YtbjhondbheijiaaGreatOps3
import Derived.Great.FillDense
namespace Go.OB
open Go.RowKit

theorem fillB_whole {s len : Nat} {zs vs : List Value} (hs : 0 < s) (h1 : ∀ v ∈ vs, v.cells.size = s) (hn : vs.length = len) : fillB s len zs ((vs.zipIdx 0).map fun x => (x.2, x.1)) = some (vs.flatMap fun v => v.cells.toList) := by
  unfold fillB
  rw [Great.fill_whole hs vs _ h1 (by simp [hn])]
  rfl
theorem one_size {v : Value} (h : v.oneCell' = true) : v.cells = #[v] := by cases v <;> simp_all [Value.cells, Value.oneCell']
theorem fillB_one {v : Value} {zs : List Value} (h : v.oneCell' = true) : fillB 1 1 zs [(0, v)] = some [v] := by
  have := fillB_whole (zs := zs) (s := 1) (vs := [v]) (len := 1) (by decide) (by simp [one_size h]) rfl
  simpa [one_size h] using this
theorem fillB_two {v u : Value} {zs : List Value} (h : v.oneCell' = true) (h' : u.oneCell' = true) : fillB 1 2 zs [(0, v), (1, u)] = some [v, u] := by
  have := fillB_whole (zs := zs) (s := 1) (vs := [v, u]) (len := 2) (by decide) (by simp [one_size h, one_size h']) rfl
  simpa [one_size h, one_size h'] using this
theorem fillB_agg {cs : List Value} {s : Nat} {zs : List Value} (h : cs.length = s) (h0 : 0 < s) : fillB s 1 zs [(0, .agg cs.toArray)] = some cs := by
  have := fillB_whole (zs := zs) (s := s) (vs := [.agg cs.toArray]) (len := 1) h0 (by simp [Value.cells, h]) rfl
  simpa [Value.cells] using this
/-- A slice literal of numbers. -/
theorem fillB_nums {k : IntKind} {ns : List Int} {zs : List Value} {len : Nat} {ps : List (Nat × Value)} (hl : ns.length = len) (h : ps = ((ns.map (Value.int k)).zipIdx 0).map fun x => (x.2, x.1)) : fillB 1 len zs ps = some (ns.map (Value.int k)) := by
  subst h hl
  unfold fillB
  rw [Great.fill_flat _ _ (fun v hv => by obtain ⟨n, _, rfl⟩ := List.mem_map.1 hv; rfl) (by simp)]
  rfl
theorem Blk.slr {w : World} {b : Nat} {cs : List Value} {T : TypeId} (h : Blk w b cs T) (n s : Nat) (hl : cs.length = n * s) (hm : n ≤ maxLen) : SlR w (.slice (some ⟨b, 0, none⟩) n n) s n cs :=
  ⟨hl, .inr ⟨⟨b, 0, none⟩, n, rfl, Nat.le_refl _, hm, fun _ => rfl, h.cells⟩⟩
theorem Sep.conv {S : List Nat} {w0 w : World} {l : List It} {i : Nat} {b : Nat} {cs cs' : List Value} {T : TypeId} (h : Sep S w0 w l) (hi : l[i]? = some (.blk b cs T)) (e : cs = cs') : Sep S w0 w (l.set i (.blk b cs' T)) := by
  subst e
  have : l.set i (.blk b cs T) = l := by
    apply List.ext_getElem?
    intro j
    rw [List.getElem?_set]
    split
    · rename_i hij; subst hij
      split
      · exact hi.symm
      · rw [List.getElem?_eq_none (by omega)]
    · rfl
  rw [this]; exact h
theorem set_self {l : List It} {i : Nat} {x : It} (hi : l[i]? = some x) : l.set i x = l := by
  apply List.ext_getElem?
  intro j
  rw [List.getElem?_set]
  split
  · rename_i hij; subst hij
    split
    · exact hi.symm
    · rw [List.getElem?_eq_none (by omega)]
  · rfl
theorem Sep.convs {S : List Nat} {w0 w : World} {l : List It} {i e s n n' : Nat} {v : Value} {xs xs' : List Value} (h : Sep S w0 w l) (hi : l[i]? = some (.sl v e s n xs)) (e1 : n = n') (e2 : xs = xs') : Sep S w0 w (l.set i (.sl v e s n' xs')) := by
  subst e1 e2
  rw [set_self hi]; exact h
theorem SlR.inner {w : World} {va : Option Addr} {m vc s : Nat} {xs : List Value} (h : SlR w (.slice va m vc) s m xs) : m ≤ vc ∧ vc ≤ 9223372036854775807 ∧ (0 < m → ∃ b o, va = Option.some (⟨b, o, none⟩ : Addr)) := by
  obtain ⟨_, h⟩ := h
  rcases h with ⟨h1, h2⟩ | ⟨⟨b, o, sp⟩, c, h1, h2, h3, h4, _⟩
  · cases h1; exact ⟨by omega, by omega, fun h => by omega⟩
  · cases h1; rw [maxLen_eq] at h3; exact ⟨h2, h3, fun h => ⟨b, o, by have h5 : sp = Option.none := h4 h
                                                                      subst h5; rfl⟩⟩
theorem SlR.at_ {w : World} {b o n c s : Nat} {xs : List Value} (h : SlR w (.slice (Option.some (⟨b, o, none⟩ : Addr)) n c) s n xs) : Cells w ⟨b, o, none⟩ xs := by
  rcases h.2 with ⟨h1, _⟩ | ⟨a', c', h1, _, _, _, hc⟩
  · cases h1
  · cases h1; exact hc
/-- A part of a block, as a slice. -/
theorem Blk.slo {w : World} {b o n c s : Nat} {cs xs : List Value} {T : TypeId} (h : Blk w b cs T) (e : (cs.drop o).take (n * s) = xs) (hl : xs.length = n * s) (hn : n ≤ c) (hc : c ≤ maxLen) : SlR w (.slice (Option.some (⟨b, o, none⟩ : Addr)) n c) s n xs := by
  refine ⟨hl, .inr ⟨⟨b, o, none⟩, c, rfl, hn, hc, fun _ => rfl, ?_⟩⟩
  intro i v hv
  rw [Addr.add_none]
  refine h.cell ?_
  rw [← e, List.getElem?_take] at hv
  split at hv
  · rwa [List.getElem?_drop] at hv
  · cases hv
theorem owns_some {w : World} {B e s n : Nat} {v : Value} {xs : List Value} (h : w.ownsRow B e s v n xs) (hn : 0 < n) : ∃ b cap cur, v = .slice (Option.some (⟨b, 0, none⟩ : Addr)) n cap ∧ Blk w b (xs ++ cur) e ∧ n ≤ cap ∧ cap ≤ maxLen := by
  rcases h.2 with ⟨_, h⟩ | ⟨g, cap, cur, rfl, _, hg, h2, h3, h4, h5⟩
  · omega
  · refine ⟨g, cap, cur.toList.drop (n * s), rfl, ?_, h2, h3⟩
    unfold Blk
    rw [hg, ← h5, List.take_append_drop]
theorem Ex_bs0 {P : Program} {ρ : Env} {w : World} {d : Option Tmp} {t ty e : TypeId} {pos : String} {af : Array Edge} {g : Option (Nat × Bool)} {s bytes : Nat} {zs : List Value} (hu : P.underlying t = some (.slice e)) (he : El P e s bytes zs) :
    ∃ v w', Do P ⟨d, .buildSlice t 0 #[], ty, pos, af, g⟩ ρ w v w' ∧ ∃ b, v = .slice (Option.some (⟨b, 0, none⟩ : Addr)) 0 0 ∧ Al w w' b [] e := by
  obtain ⟨i, z, h1, h2, h3, h4, h5⟩ := he.get
  refine ⟨_, _, ?_, w.heap.size, rfl, Al.mk' w [] e⟩
  unfold Do
  simp [execOp, Instr.buildSlice, run_underlying hu, sizeOf, typeInfo, h1, Instr.fill, newRow, newObj, Sem.run, show Array.range 0 = #[] from rfl]
theorem Blk.part {w : World} {b o n : Nat} {cs xs : List Value} {T : TypeId} (h : Blk w b cs T) (e : (cs.drop o).take n = xs) : Cells w ⟨b, o, none⟩ xs := by
  intro i v hv
  rw [Addr.add_none]
  refine h.cell ?_
  rw [← e, List.getElem?_take] at hv
  split at hv
  · rwa [List.getElem?_drop] at hv
  · cases hv
end Go.OB
