/- Copying into what is owned. -/
import Derived.Test.YtbjhondbheijiaaGreatOps4
namespace Go.OB
open Go.RowKit
section
variable {P : Program} {ρ : Env} {w : World} {d : Option Tmp} {x y z : Operand} {t u ty e : TypeId} {pos : String} {af : Array Edge} {g : Option (Nat × Bool)}
variable {v : Value} {b o i j m n c s : Nat} {cs xs ys : List Value} {T : TypeId}
/-- copy(x, y): y is no longer than x. -/
theorem Ex_copy {cap dl dc : Nat} {v' : Value} (hu : P.underlying t = some (.slice e)) (hs : Sz P e 1) (hx : ev ρ x = .slice (some ⟨b, o, none⟩) dl dc) (hy : ev ρ y = v') (hown : w.ownsRow 0 T 1 (.slice (some ⟨b, 0, none⟩) n cap) n xs)
    (hr : SlR w v' 1 m ys) (hm : m ≤ dl) (hfit : o + m ≤ n) (h1 : ∀ u ∈ ys, u.oneCell' = true) :
    ∃ v w', Do P ⟨d, .call { callee := .builtin .copy, args := #[x, y], argTypes := #[t, t] }, ty, pos, af, g⟩ ρ w v w' ∧ v = .int .i64 m ∧ Ap w w' (.slice (some ⟨b, 0, none⟩) n cap) (.slice (some ⟨b, 0, none⟩) n cap) T 1 n (splice xs o ys) := by
  have hyl : ys.length = m := by have := hr.1; omega
  have hxl : xs.length = n := by have := hown.1; omega
  rcases hown.2 with ⟨h', _⟩ | ⟨b', cap', cur, h', _, hg, hnc, hcm, hcs, htake⟩
  · cases h'
  · cases h'
    have hd : ∀ w', (Builtin.copy_ #[t, t] ty #[.slice (some ⟨b, o, none⟩) dl dc, v']).run P w = .ok (.int .i64 m) w' → Do P ⟨d, .call { callee := .builtin .copy, args := #[x, y], argTypes := #[t, t] }, ty, pos, af, g⟩ ρ w (.int .i64 m) w' := by
      intro w' h
      unfold Do; simp [execOp, resolve, invoke, builtin, hx, hy, h]
    have hc1 : o + m ≤ cur.size := by omega
    rcases hr.2 with ⟨hv, rfl⟩ | ⟨ua, uc, hv, h2, h3, _, hc⟩
    · subst hv
      have : ys = [] := List.eq_nil_of_length_eq_zero hyl
      subst this
      refine ⟨_, w, hd w ?_, rfl, ?_, Only.refl _ w, fun b hb => .inl hb⟩
      · have h := run_copy_nil (P := P) w t t ty e ⟨b, o, none⟩ dl dc hu (by unfold Sz at hs; rw [hs]; rfl)
        simpa [goInt] using h
      · have e0 : splice xs o [] = xs := by simp [splice]
        rw [e0]; exact hown
    · subst hv
      have h := run_copy_row (P := P) w t t ty e b o dl dc ua m uc cur T ys hu hs hg (by rw [hyl]; exact (Nat.min_eq_left hm).symm) (fun j v hj => hc j v hj) (by rw [hyl]; exact hc1) h1
      rw [hyl] at h
      refine ⟨_, _, hd _ (by simpa [goInt] using h), rfl, ⟨by simp [splice]; omega, .inr ⟨b, cap, _, rfl, Nat.zero_le _, setRow_heap w b cur _ T _ hg, hnc, hcm, ?_, ?_⟩⟩, ⟨rfl, rfl, rfl, by simp, fun k _ hk => setRow_other w b k _ (fun e => hk (by simp [ob, sblk, e]))⟩, fun b hb => .inl hb⟩
      · simp; omega
      · simp only [Nat.mul_one] at htake ⊢
        rw [← htake]
        unfold splice
        apply List.ext_getElem?
        intro i
        simp only [List.getElem?_take, List.getElem?_append, List.getElem?_drop, List.length_append, List.length_take, Array.length_toList, hyl]
        repeat' split
        all_goals first | rfl | omega | (congr 1; omega)
end
end Go.OB
