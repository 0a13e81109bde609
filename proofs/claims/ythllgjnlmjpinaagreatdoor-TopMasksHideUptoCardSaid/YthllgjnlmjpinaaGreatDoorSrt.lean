/- slices.Sort of an own slice of integers, by the shelf's contract, over any program. -/
import Derived.Test.YthllgjnlmjpinaaGreatDoorSrt0
import Derived.Sort.OwnSortedInts
import Derived.Shelf.Sort.Plain
import Derived.Shelf.Slices.In.SortNone
namespace Go.Lf
open Go.RowKit Go.OB Go.Sort Go.Shelf Go.Proofs
variable {P:Program} {ρ:Ren} {O S:List Nat} {w0 w:World} {l:List Th} {i e:Nat} {v:Value} {xl:List Int}
theorem sort_own (L : Lays.n189 P ρ) (H : Hd O w0 w S l) (hi : l[i]? = some (.own (Rp.int .i64) v e xl)) (hn : xl.length < 4611686018427387904) :
    Calls P (ρ.f 189) #[v] w fun r w' => r = .returned (.tuple #[]) ∧ Hd O w0 w' S (l.set i (.own (Rp.int .i64) v e (srt xl))) := by
  obtain ⟨xs, r1, r2⟩ := H.item hi
  have r1 := jV.1 r1
  subst r1
  have hlen := aUj xl
  rcases r2.2 with ⟨rfl, h0⟩ | ⟨g, cap, cur, rfl, hbg, hgg, hnc, hcm, hcs, htake⟩
  · have hx : xl = [] := List.eq_nil_of_length_eq_zero h0
    subst hx
    refine (Any.slices_Sort_int_none L none 0 w).mono fun r w' ⟨h1, h2⟩ => ⟨h1, ?_⟩
    subst h2
    have e1 : srt [] = [] := List.eq_nil_of_length_eq_zero hlen
    have e2 : l.set i (.own (Rp.int .i64) (.slice none 0 0) e []) = l := by
      apply List.ext_getElem?
      intro j
      rw [List.getElem?_set]
      by_cases hj : i = j
      · subst hj
        rw [if_pos rfl, if_pos (List.getElem?_eq_some_iff.1 hi).1]; exact hi.symm
      · rw [if_neg hj]
    rw [e1, e2]; exact H
  · have hH : Holds (Value.int .i64) w g 0 xl.toArray := holds_of_blockI hgg (by have h : cur.toList.take (xl.length * 1) = ints .i64 xl := htake; rw [Nat.mul_one] at h; exact h)
    refine (Any.slices_Sort_int L g 0 cap xl w hH (Array.getElem?_eq_some_iff.1 hgg).1 hn).mono fun r w' ⟨h1, n, os, h2⟩ => ⟨h1, ?_⟩
    subst h2
    have gb := grownBy_sortedI (w := w) (g := g) (n := n) (os := os) (srt xl).toArray
    have ho := ownsRow_sortedI (base := 0) (n := n) (os := os) (ts := srt xl) hlen (Nat.zero_le _) hgg hnc hcm (show cur.size = cap * 1 from hcs)
    refine H.turn hi ⟨gb.os, gb.tape, gb.output, gb.size, fun k hk hne => gb.block k hk (fun h => hne ?_)⟩ (fun _ => ⟨_, jV.2 rfl, ?_⟩) ?_ (rV _)
    · simp [Th.blocks, ob, aH] at h ⊢; exact h
    · rw [hlen]; exact ho
    · intro b hb
      exact ⟨.inl hb, by have := rF ho b hb; exact this.2⟩
end Go.Lf
