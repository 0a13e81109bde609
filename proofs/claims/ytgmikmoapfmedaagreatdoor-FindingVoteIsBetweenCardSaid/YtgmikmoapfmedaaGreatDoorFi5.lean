/- Clashes: both programs find the same. -/
import Derived.Test.YtgmikmoapfmedaaGreatDoorFi4
namespace Go.Lf
open Go.OB
theorem good_num {l : List gV} (h : kE l = 0) {x : gV} (hx : x ∈ l) (n : Int) : (1 ≤ x.Series.Den ∧ x.Series.Den ≤ 1000000) ∧ -1125899906842624 ≤ (inT n x).N ∧ (inT n x).N ≤ 1125899906842624 := by
  obtain ⟨i, hi⟩ := List.getElem?_of_mem hx
  have q := ((aAi l).1 h).2 i x hi
  obtain ⟨-, -, q2, -⟩ := (uS l i x).1 q
  obtain ⟨d, hl, hs⟩ := (aDv x.Series).1 q2
  refine ⟨d, ?_⟩
  unfold inT hld
  dsimp only
  cases kLe x.Series.Samples (64 * n + 63) with
  | zero => exact ⟨show (-1125899906842624 : Int) ≤ 0 by decide, show (0 : Int) ≤ 1125899906842624 by decide⟩
  | succ m =>
    dsimp only
    cases hm : x.Series.Samples[m]? with
    | none => exact ⟨show (-1125899906842624 : Int) ≤ 0 by decide, show (0 : Int) ≤ 1125899906842624 by decide⟩
    | some y =>
      dsimp only
      split
      · exact ⟨by decide, by decide⟩
      · have z := hs m y hm
        unfold aAv at z
        split at z
        · exact absurd z (by decide)
        · rename_i c
          simp only [Bool.or_eq_true, Bool.not_eq_true', Bool.and_eq_false_iff, decide_eq_false_iff_not, not_or, Decidable.not_not, not_and] at c
          by_cases c1 : -1125899906842624 ≤ y.N
          · by_cases c2 : y.N ≤ 1125899906842624
            · exact ⟨c1, c2⟩
            · simp [c2] at c
          · simp [c1] at c
def trk0:gV:=gV.mk [] (Series.mk 0 []) 0
def trk (l:List gV)(s:Str):gV:=(at' l (dO l s)).getD trk0
theorem aH {l : List gV} {s : Str} (h : ¬ dO l s < 0) : at' l (dO l s) = some (trk l s) ∧ trk l s ∈ l ∧ (trk l s).Name = s := by
  rcases (sU l s).2 with ⟨e, -⟩ | ⟨j, x, h1, h2, h3⟩
  · omega
  · have e : at' l (dO l s) = some x := by rw [h3]; exact dZ h1
    have e2 : trk l s = x := by unfold trk; rw [e]; rfl
    rw [e2]
    exact ⟨e, List.mem_of_getElem? h1, h2⟩
theorem ap24 {α:Type}{l:List α}{x:α}(h:l.length≤1000000):app' 24 l [x]=some (l++ [x]):=by
  unfold app'
  rw [if_pos ⟨by rw [Go.OB.maxLen_eq]; simp; omega,by simp; omega⟩]
def spn (a b:Int):Nat:=(b - a+1).toNat
end Go.Lf
