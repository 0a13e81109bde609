/- slices.SortFunc of own texts by strings.Compare, and slices.Compact of own texts, by the shelf's contracts, over any program. -/
import Derived.Test.YthllgjnlmjpinaaGreatDoorXVp
import Derived.Sort.OwnSorted
import Derived.Shelf.SlSortCmp.NoneTotal
import Derived.Shelf.Small.Strs
import Derived.Shelf.Slices.CompactS
namespace Go.Lf
open Go.RowKit Go.OB Go.Sort Go.Shelf Go.Proofs
def cfS (x y:Str):Int:=Lib.compareBytes x y
theorem ltS : ∀ x y : Str, ltOf cfS x y = slt x y
  | [], [] => rfl
  | [], _ :: _ => rfl
  | _ :: _, [] => rfl
  | a :: x, b :: y => by
    have ih := ltS x y
    rw [aCu, ← ih]
    unfold ltOf cfS
    rw [Lib.compareBytes]
    by_cases h1 : a < b
    · simp [h1]
    · by_cases h2 : b < a
      · have h3 : ¬ a = b := fun e => h1 (e ▸ h2)
        simp [h1, h2, h3]
      · have h3 : a = b := (u8eq a b).2 (by have := mt (u8lt a b).2 h1; have := mt (u8lt b a).2 h2; omega)
        subst h3
        simp [h1]
theorem swoS:SWO (ltOf cfS) where
  irrefl x:=by rw [ltS]; exact nR x
  trans x y z h1 h2:=by rw [ltS] at *; exact nN x y z h1 h2
  ntrans x y z h1 h2:=by rw [ltS] at *; exact aHs x y z h1 h2
variable {P:Program} {ρ ρ':Ren} {O S:List Nat} {w0 w:World} {l:List Th} {i e:Nat} {v:Value} {xl:List Str}
theorem qG : ∀ {l : List Str} {F : Nat → Prop} {w : World} {cs : List Value}, rows Rp.str F w cs l ↔ cs = l.map encStr
  | [], _, _, cs => Iff.rfl
  | x :: l, F, w, cs => by
    constructor
    · rintro ⟨c, d, rfl, h1, h2⟩
      have h1 : c = [.string (bs x)] := h1
      rw [h1, qG.1 h2]; rfl
    · rintro rfl
      exact ⟨[.string (bs x)], l.map encStr, rfl, rfl, qG.2 rfl⟩
theorem cmpS (LC:Lays.n106 P ρ')(W:World)(x y:Str):Calls P (ρ'.f 106) #[encStr x,encStr y] W fun e w'=>e= .returned (.int .i64 (cfS x y))∧w'=W:=Any.strings_Compare LC (bs x) (bs y) W
theorem sortS_own (L : SlLaysF.n6 P ρ) (LC : Lays.n106 P ρ') (H : Hd O w0 w S l) (hi : l[i]? = some (.own Rp.str v e xl)) (hn : xl.length < 4611686018427387904)
    (eg : ∀ args w, (callFunc (ρ'.f 106) args).run P w = .ok (.enter (ρ'.f 106) args) w) :
    Calls P (ρ.f 6) #[v, .func (.func (ρ'.f 106)) #[] #[]] w fun r w' => r = .returned (.tuple #[]) ∧ Hd O w0 w' S (l.set i (.own Rp.str v e (tH xl))) := by
  obtain ⟨xs, r1, r2⟩ := H.item hi
  have r1 := qG.1 r1
  subst r1
  have hlen := aPz xl
  rcases r2.2 with ⟨rfl, h0⟩ | ⟨g, cap, cur, rfl, hbg, hgg, hnc, hcm, hcs, htake⟩
  · have hx : xl = [] := List.eq_nil_of_length_eq_zero h0
    subst hx
    refine (AnyF.slices_SortFunc_none (P := P) (ρ := ρ) { L with } none 0 (.func (.func (ρ'.f 106)) #[] #[]) w).mono fun r w' ⟨h1, h2⟩ => ⟨h1, ?_⟩
    subst h2
    have e1 : tH [] = [] := List.eq_nil_of_length_eq_zero hlen
    have e2 : l.set i (.own Rp.str (.slice none 0 0) e []) = l := by
      apply List.ext_getElem?
      intro j
      rw [List.getElem?_set]
      by_cases hj : i = j
      · subst hj
        rw [if_pos rfl, if_pos (List.getElem?_eq_some_iff.1 hi).1]; exact hi.symm
      · rw [if_neg hj]
    rw [e1, e2]; exact H
  · have hH : Holds encStr w g 0 xl.toArray := holds_of_block hgg (by have h : cur.toList.take (xl.length * 1) = xl.map encStr := htake; rw [Nat.mul_one] at h; exact h)
    have q := Any.slices_SortFunc_total L encStr (fun _ => rfl) cfS swoS (ρ'.f 106) #[] g 0 cap xl.toArray w eg (fun m os dk _ x y => (cmpS LC _ x y).mono fun _ _ ⟨h1, h2⟩ => ⟨h1, 0, #[], by rw [h2, grow_empty]; rfl⟩) hH (Array.getElem?_eq_some_iff.1 hgg).1 (by simpa using hn) (fun x y h1 h2 => by rw [ltS] at h1 h2; exact aDj x y h1 h2)
    have e3 : (fun x y : Str => !ltOf cfS y x) = fun x y => !slt y x := by funext x y; rw [ltS]
    rw [e3] at q
    refine q.mono fun r w' ⟨h1, n, os, h2⟩ => ⟨h1, ?_⟩
    subst h2
    have gb := grownBy_sorted (w := w) (g := g) (n := n) (os := os) (tH xl).toArray
    have ho := ownsRow_sorted (base := 0) (n := n) (os := os) (ts := tH xl) hlen (Nat.zero_le _) hgg hnc hcm (show cur.size = cap * 1 from hcs)
    refine H.turn hi ⟨gb.os, gb.tape, gb.output, gb.size, fun k hk hne => gb.block k hk (fun h => hne ?_)⟩ (fun _ => ⟨_, qG.2 rfl, ?_⟩) ?_ (rV _)
    · simp [Th.blocks, ob, aH] at h ⊢; exact h
    · rw [hlen]; exact ho
    · intro b hb
      exact ⟨.inl hb, by have := rF ho b hb; exact this.2⟩
theorem aLn (L : Lays.n194 P ρ) (H : Hd O w0 w S l) (hi : l[i]? = some (.own Rp.str v e xl)) (hn : xl.length ≤ 9223372036854775807) :
    Calls P (ρ.f 194) #[v] w fun r w' => ∃ u, r = .returned u ∧ Hd O w0 w' S (l.set i (.own Rp.str u e (kL xl))) := by
  obtain ⟨xs, r1, r2⟩ := H.item hi
  have r1 := qG.1 r1
  subst r1
  have hlen := cmpS1_len xl
  have same : ∀ u, l[i]? = some u → l.set i u = l := by
    intro u hu
    apply List.ext_getElem?
    intro j
    rw [List.getElem?_set]
    by_cases hj : i = j
    · subst hj; rw [if_pos rfl, if_pos (List.getElem?_eq_some_iff.1 hi).1]; exact hu.symm
    · rw [if_neg hj]
  rcases r2.2 with ⟨rfl, h0⟩ | ⟨g, cap, cur, rfl, hbg, hgg, hnc, hcm, hcs, htake⟩
  · have hx : xl = [] := List.eq_nil_of_length_eq_zero h0
    subst hx
    refine (Any.slices_Compact_string_empty L none 0 w).mono fun r w' ⟨h1, h2⟩ => ⟨_, h1, ?_⟩
    subst h2
    have e1 : kL [] = [] := List.eq_nil_of_length_eq_zero (by simpa using hlen)
    rw [e1, same _ hi]; exact H
  · have hH : Holds encStr w g 0 xl.toArray := holds_of_block hgg (by have h : cur.toList.take (xl.length * 1) = xl.map encStr := htake; rw [Nat.mul_one] at h; exact h)
    refine (Any.slices_Compact_string L g 0 cap xl w hH hn hnc).mono fun r w' ⟨h1, q, h2⟩ => ⟨_, h1, ?_⟩
    subst h2
    have hzl : (kL xl ++ List.replicate (xl.length - (kL xl).length) []).length = xl.length := by simp; omega
    have gb := grownBy_sorted (w := w) (g := g) (n := q) (os := #[]) (kL xl ++ List.replicate (xl.length - (kL xl).length) []).toArray
    have ho := ownsRow_sorted (base := 0) (n := q) (os := #[]) (ts := kL xl ++ List.replicate (xl.length - (kL xl).length) []) hzl (Nat.zero_le _) hgg hnc hcm (show cur.size = cap * 1 from hcs)
    rw [grow_empty] at gb ho
    have ho2 : (putRow encStr (Sort.ahead w q) g 0 (Lib.compact xl ++ List.replicate (xl.length - (Lib.compact xl).length) []).toArray).ownsRow 0 e 1 (.slice (some ⟨g, 0, none⟩) (kL xl).length cap) (kL xl).length ((kL xl).map encStr) := by
      obtain ⟨-, h3⟩ := ho
      rcases h3 with ⟨h3, _⟩ | ⟨g', cap', cur', h3, h4, h5, h6, h7, h8, h9⟩
      · cases h3
      · cases h3
        refine ⟨by simp, .inr ⟨g, cap, cur', rfl, h4, h5, Nat.le_trans hlen hnc, h7, h8, ?_⟩⟩
        have h10 := congrArg (List.take ((kL xl).length * 1)) h9
        rw [List.take_take, Nat.min_eq_left (by omega)] at h10
        rw [h10, List.map_append, Nat.mul_one, List.take_left' (by simp)]
    refine H.turn hi ⟨gb.os, gb.tape, gb.output, gb.size, fun k hk hne => gb.block k hk (fun h => hne ?_)⟩ (fun _ => ⟨_, qG.2 rfl, ?_⟩) ?_ (rV _)
    · simp [Th.blocks, ob, aH] at h ⊢; exact h
    · exact ho2
    · intro b hb
      have hb : b ∈ ob (.slice (some ⟨g, 0, none⟩) (kL xl).length cap) := hb
      refine ⟨.inl (by simpa [Th.blocks, ob, aH] using hb), by have := rF ho2 b hb; exact this.2⟩
end Go.Lf
