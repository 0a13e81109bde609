/- Literals of slices and structs; more of what is owned. -/
import Derived.Test.YtnajnkghilemhaaGreatDoorOps3
import Derived.Great.FillDense
namespace Go.OB
open Go.RowKit

theorem fillB_whole {s len : Nat} {zs vs : List Value} (hs : 0 < s) (h1 : ∀ v ∈ vs, v.cells.size = s) (hn : vs.length = len) : fillB s len zs ((vs.zipIdx 0).map fun x => (x.2, x.1)) = some (vs.flatMap fun v => v.cells.toList) := by
  unfold fillB
  rw [Great.fill_whole hs vs _ h1 (by simp [hn])]
  rfl
theorem Sep.conv {S : List Nat} {w0 w : World} {l : List It} {i : Nat} {b : Nat} {cs cs' : List Value} {T : TypeId} (h : Sep S w0 w l) (hi : l[i]? = some (.blk b cs T)) (e : cs = cs') : Sep S w0 w (l.set i (.blk b cs' T)) := by
  subst e
  have : l.set i (.blk b cs T) = l := by
    apply List.ext_getElem?
    intro j
    rw [List.getElem?_set]
    split
    · rename_i hij; subst hij
      split
      · exact hi.symm
      · rw [List.getElem?_eq_none (by omega)]
    · rfl
  rw [this]; exact h
theorem SlR.at_ {w : World} {b o n c s : Nat} {xs : List Value} (h : SlR w (.slice (Option.some (⟨b, o, none⟩ : Addr)) n c) s n xs) : Cells w ⟨b, o, none⟩ xs := by
  rcases h.2 with ⟨h1, _⟩ | ⟨a', c', h1, _, _, _, hc⟩
  · cases h1
  · cases h1; exact hc
theorem Blk.slo {w : World} {b o n c s : Nat} {cs xs : List Value} {T : TypeId} (h : Blk w b cs T) (e : (cs.drop o).take (n * s) = xs) (hl : xs.length = n * s) (hn : n ≤ c) (hc : c ≤ maxLen) : SlR w (.slice (Option.some (⟨b, o, none⟩ : Addr)) n c) s n xs := by
  refine ⟨hl, .inr ⟨⟨b, o, none⟩, c, rfl, hn, hc, fun _ => rfl, ?_⟩⟩
  intro i v hv
  rw [Addr.add_none]
  refine h.cell ?_
  rw [← e, List.getElem?_take] at hv
  split at hv
  · rwa [List.getElem?_drop] at hv
  · cases hv
theorem owns_some {w : World} {B e s n : Nat} {v : Value} {xs : List Value} (h : w.ownsRow B e s v n xs) (hn : 0 < n) : ∃ b cap cur, v = .slice (Option.some (⟨b, 0, none⟩ : Addr)) n cap ∧ Blk w b (xs ++ cur) e ∧ n ≤ cap ∧ cap ≤ maxLen := by
  rcases h.2 with ⟨_, h⟩ | ⟨g, cap, cur, rfl, _, hg, h2, h3, h4, h5⟩
  · omega
  · refine ⟨g, cap, cur.toList.drop (n * s), rfl, ?_, h2, h3⟩
    unfold Blk
    rw [hg, ← h5, List.take_append_drop]
theorem Blk.part {w : World} {b o n : Nat} {cs xs : List Value} {T : TypeId} (h : Blk w b cs T) (e : (cs.drop o).take n = xs) : Cells w ⟨b, o, none⟩ xs := by
  intro i v hv
  rw [Addr.add_none]
  refine h.cell ?_
  rw [← e, List.getElem?_take] at hv
  split at hv
  · rwa [List.getElem?_drop] at hv
  · cases hv
end Go.OB
