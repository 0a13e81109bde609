/- An append to a slice that fills its block. -/
import Derived.Test.YtafgmocdnjdmoaaDoorOps5
import Derived.ArgAppend
namespace Go.OB
open Go.RowKit
variable {P : Program} {w : World} {ρ : Env} {t e ty : TypeId} {s n m : Nat} {x y : Operand} {xs ys : List Value} {d : Option Nat} {pos : String} {af : Array Edge} {g : Option (Nat × Bool)}
theorem Ex_appendB {bytes : Nat} {zs : List Value} {u : Value} {b : Nat} (hu : P.underlying t = some (.slice e)) (he : El P e s bytes zs) (hx : ev ρ x = .slice (some ⟨b, 0, none⟩) n n) (hy : ev ρ y = u) (hl : xs.length = n * s) (hn : n ≤ maxLen) (hb : Cells w ⟨b, 0, none⟩ xs) (hr : SlR w u s m ys)
    (h1 : ∀ u ∈ ys, u.oneCell' = true) (h63 : n + m ≤ maxLen) (hby : (n + m) * bytes ≤ 140737488355328) :
    ∃ v' w', Do P ⟨d, .call { callee := .builtin .append, args := #[x, y], argTypes := #[t, t] }, ty, pos, af, g⟩ ρ w v' w' ∧ SlR w' v' s (n + m) (xs ++ ys) ∧ Below w.heap.size w w' := by
  obtain ⟨i, z, i1, i2, i3, i4, i5⟩ := he.get
  have hd : ∀ v' w', (Builtin.append_ #[t, t] ty #[.slice (some ⟨b, 0, none⟩) n n, u]).run P w = .ok v' w' → Do P ⟨d, .call { callee := .builtin .append, args := #[x, y], argTypes := #[t, t] }, ty, pos, af, g⟩ ρ w v' w' := by
    intro v' w' h
    unfold Do; simp [execOp, resolve, invoke, builtin, hx, hy, h]
  have stay : m = 0 → SlR w (.slice (some ⟨b, 0, none⟩) n n) s (n + m) (xs ++ ys) := by
    rintro rfl
    have : ys = [] := List.eq_nil_of_length_eq_zero (by have := hr.1; omega)
    subst this
    exact ⟨by simpa using hl, .inr ⟨_, _, rfl, Nat.le_refl _, hn, fun _ => rfl, by simpa using hb⟩⟩
  rcases hr.2 with ⟨hu', rfl⟩ | ⟨ua, cap, hu', h2, h3, _, hc⟩
  · subst hu'
    refine ⟨_, w, hd _ _ ?_, stay rfl, Below.refl _ w⟩
    simp [Builtin.append_, run_underlying hu, sizeOf, typeInfo, i1, Builtin.lenOf, Builtin.firstCells, storeCells]
  · subst hu'
    have hzs : z.cells.size = s := by rw [i5]; simp [he.len]
    by_cases hm : m = 0
    · have hys : ys = [] := List.eq_nil_of_length_eq_zero (by have := hr.1; rw [hm] at this; omega)
      subst hm hys
      have q := run_append_room_cells (P := P) (w := w) t ty e i hu i1 b 0 n n ua 0 cap [] (by simp) (fun j u hj => by simp at hj) (by simp) (by omega) (by simp) (by simp)
      exact ⟨_, _, hd _ _ q, stay rfl, Below.refl _ w⟩
    · obtain ⟨v', w', q, ho, hg⟩ := run_append_arg_grows (P := P) (w := w) t ty e i z s bytes hu i1 i2 i3 i4 hzs he.pos ⟨b, 0, none⟩ n n xs hl (fun j u hj => hb j u hj) ua m cap ys hr.1 (fun j u hj => hc j u hj) (by omega) h63 hby
      exact ⟨v', w', hd _ _ q, owns_slr ho, ⟨hg.os, hg.tape, hg.output, hg.size, fun k hk => hg.block k hk (by simp)⟩⟩
end Go.OB
