/- What a function owns: blocks of cells and slices, none of them the same; what was there when it was entered is kept but for S. -/
import Derived.Test.YtnajnkghilemhaaGreatDoorMix2
import Derived.Test.YtnajnkghilemhaaGreatDoorBitsx
import Derived.Laws.AppendOwn
import Derived.Laws.OwnMore
import Derived.Great.BuildSlice
namespace Go.OB
open Go.RowKit

inductive It where
  | blk (b : Nat) (cs : List Value) (T : TypeId)
  | sl (v : Value) (e : TypeId) (s n : Nat) (xs : List Value)
  | rd (v : Value) (s n : Nat) (xs : List Value)

def ob (v : Value) : List Nat := (sblk v).toList
def It.blocks : It → List Nat
  | .blk b _ _ => [b]
  | .sl v _ _ _ _ => ob v
  | .rd v _ _ _ => ob v
def It.holds (w : World) : It → Prop
  | .blk b cs T => Blk w b cs T
  | .sl v e s n xs => w.ownsRow 0 e s v n xs
  | .rd v s n xs => SlR w v s n xs

structure Sep (S : List Nat) (w0 w : World) (l : List It) : Prop where
  only : Only S w0 w
  holds : ∀ it ∈ l, it.holds w
  own : ∀ it ∈ l, ∀ b ∈ it.blocks, (w0.heap.size ≤ b ∨ b ∈ S) ∧ b < w.heap.size
  nd : (l.flatMap It.blocks).Nodup

theorem ob_mem {v : Value} {b : Nat} : b ∈ ob v ↔ sblk v = some b := by unfold ob; cases sblk v <;> simp [eq_comm]
theorem ownBlock_eq (v : Value) : v.ownBlock = sblk v := by
  cases v <;> rfl

theorem owns_only {S : List Nat} {w w' : World} {B : Nat} {v : Value} {e s n : Nat} {xs : List Value} (h : w.ownsRow B e s v n xs) (ho : Only S w w') (hb : ∀ b ∈ ob v, b ∉ S) : w'.ownsRow B e s v n xs := by
  refine ⟨h.1, ?_⟩
  rcases h.2 with hn | ⟨g, cap, cur, rfl, h1, hg, rest⟩
  · exact .inl hn
  · refine .inr ⟨g, cap, cur, rfl, h1, ?_, rest⟩
    rw [ho.block g (Array.getElem?_eq_some_iff.1 hg).1 (hb g (by simp [ob, sblk]))]
    exact hg
theorem owns_slr {w : World} {B : Nat} {v : Value} {e s n : Nat} {xs : List Value} (h : w.ownsRow B e s v n xs) : SlR w v s n xs := by
  refine ⟨h.1, ?_⟩
  rcases h.2 with hn | ⟨g, cap, cur, rfl, _, hg, h2, h3, h4, h5⟩
  · exact .inl hn
  · refine .inr ⟨⟨g, 0, none⟩, cap, rfl, h2, h3, fun _ => rfl, ?_⟩
    intro i u hu
    rw [Addr.add_none, Nat.zero_add, cell_of_row w g i cur e (0, 0) hg]
    rw [← h5, List.getElem?_take] at hu
    split at hu
    · simpa using hu
    · cases hu
theorem owns_ge {w : World} {B : Nat} {v : Value} {e s n : Nat} {xs : List Value} (h : w.ownsRow B e s v n xs) : ∀ b ∈ ob v, B ≤ b ∧ b < w.heap.size := by
  intro b hb
  exact h.lt b (by rw [ownBlock_eq]; exact ob_mem.1 hb)

theorem It.only {S : List Nat} {w w' : World} {it : It} (h : it.holds w) (ho : Only S w w') (hb : ∀ b ∈ it.blocks, b ∉ S) : it.holds w' := by
  cases it with
  | blk b cs T => exact Blk.only h ho (hb b (by simp [It.blocks]))
  | sl v e s n xs => exact owns_only h ho hb
  | rd v s n xs => exact SlR.only h ho (fun _ b h1 => hb b (ob_mem.2 h1))

section
variable {S : List Nat} {w0 w w' : World} {l : List It} {i : Nat} {b : Nat} {cs cs' : List Value} {T : TypeId} {v : Value} {e s n : Nat} {xs : List Value}

theorem Sep.item (h : Sep S w0 w l) {it : It} (hi : l[i]? = some it) : it.holds w := h.holds it (List.mem_of_getElem? hi)
theorem Sep.blk (h : Sep S w0 w l) (hi : l[i]? = some (.blk b cs T)) : Blk w b cs T := h.item hi
theorem Sep.sl (h : Sep S w0 w l) (hi : l[i]? = some (.sl v e s n xs)) : w.ownsRow 0 e s v n xs := h.item hi
theorem Sep.rd (h : Sep S w0 w l) (hi : l[i]? = some (.rd v s n xs)) : SlR w v s n xs := h.item hi
theorem Sep.step (h : Sep S w0 w l) (ho : Only [] w w') : Sep S w0 w' l :=
  ⟨h.only.trans (ho.mono (by simp)), fun it hm => It.only (h.holds it hm) ho (by simp), fun it hm b hb => ⟨(h.own it hm b hb).1, Nat.lt_of_lt_of_le (h.own it hm b hb).2 ho.size⟩, h.nd⟩
theorem Sep.below (h : Sep S w0 w l) (ho : Below w.heap.size w w') : Sep S w0 w' l := h.step (Only.of_below ho)
theorem Sep.sees (h : Sep S w0 w l) (ho : Sees w w') : Sep S w0 w' l := h.below ho
theorem flat_lt (h : Sep S w0 w l) {b : Nat} (hb : b ∈ l.flatMap It.blocks) : b < w.heap.size := by
  obtain ⟨it, hm, hb⟩ := List.mem_flatMap.1 hb
  exact (h.own it hm b hb).2
theorem Sep.add (h : Sep S w0 w l) (ho : Only [] w w') {it : It} (hh : it.holds w') (hb : ∀ b ∈ it.blocks, w.heap.size ≤ b ∧ b < w'.heap.size) (hn : it.blocks.Nodup) : Sep S w0 w' (l ++ [it]) := by
  have h1 := h.step ho
  refine ⟨h1.only, ?_, ?_, ?_⟩
  · intro x hx
    rcases List.mem_append.1 hx with hx | hx
    · exact h1.holds x hx
    · obtain rfl := List.mem_singleton.1 hx; exact hh
  · intro x hx b hbx
    rcases List.mem_append.1 hx with hx | hx
    · exact h1.own x hx b hbx
    · obtain rfl := List.mem_singleton.1 hx
      exact ⟨.inl (Nat.le_trans h.only.size (hb b hbx).1), (hb b hbx).2⟩
  · rw [List.flatMap_append, List.nodup_append]
    refine ⟨h1.nd, by simpa using hn, ?_⟩
    intro a ha c hc
    have := flat_lt h ha
    have hc' : c ∈ it.blocks := by simpa using hc
    have := (hb c hc').1
    omega
theorem Sep.alloc (h : Sep S w0 w l) (ha : Al w w' b cs T) : Sep S w0 w' (l ++ [.blk b cs T]) :=
  h.add ha.only ha.blk (by intro c hc; obtain rfl := List.mem_singleton.1 hc; exact ⟨Nat.le_of_eq ha.at_.symm, by rw [ha.at_, ha.size]; omega⟩) (by simp [It.blocks])
theorem Sep.nil (h : Sep S w0 w l) (e s : Nat) : Sep S w0 w (l ++ [.sl (.slice none 0 0) e s 0 []]) :=
  h.add (Only.refl [] w) (w.ownsRow_nil 0 e s) (by simp [It.blocks, ob, sblk]) (by simp [It.blocks, ob, sblk])

theorem flat_set : ∀ (l : List It) (i : Nat) (it it' : It), l[i]? = some it → (l.flatMap It.blocks).Nodup → (∀ b ∈ it'.blocks, b ∈ it.blocks ∨ b ∉ l.flatMap It.blocks) → it'.blocks.Nodup → ((l.set i it').flatMap It.blocks).Nodup ∧ (∀ j, j ≠ i → ∀ x, l[j]? = some x → ∀ b ∈ x.blocks, b ∉ it.blocks)
  | [], i, it, it', hi, _, _, _ => by simp at hi
  | x :: l, 0, it, it', hi, hn, hb, hn' => by
    have : x = it := by simpa using hi
    subst this
    rw [List.flatMap_cons, List.nodup_append] at hn
    refine ⟨?_, ?_⟩
    · rw [List.set_cons_zero, List.flatMap_cons, List.nodup_append]
      refine ⟨hn', hn.2.1, fun a ha c hc heq => ?_⟩
      subst heq
      rcases hb a ha with h | h
      · exact hn.2.2 a h a hc rfl
      · exact h (by rw [List.flatMap_cons]; exact List.mem_append_right _ hc)
    · intro j hj y hy b hby hbx
      cases j with
      | zero => exact hj rfl
      | succ j =>
        have hm : y ∈ l := List.mem_of_getElem? (by simpa using hy)
        exact hn.2.2 b hbx b (List.mem_flatMap.2 ⟨y, hm, hby⟩) rfl
  | x :: l, i + 1, it, it', hi, hn, hb, hn' => by
    have hi' : l[i]? = some it := by simpa using hi
    rw [List.flatMap_cons, List.nodup_append] at hn
    have ih := flat_set l i it it' hi' hn.2.1 (fun b h => (hb b h).imp id fun h hm => h (by rw [List.flatMap_cons]; exact List.mem_append_right _ hm)) hn'
    refine ⟨?_, ?_⟩
    · rw [List.set_cons_succ, List.flatMap_cons, List.nodup_append]
      refine ⟨hn.1, ih.1, fun a ha c hc heq => ?_⟩
      subst heq
      obtain ⟨y, hy, hay⟩ := List.mem_flatMap.1 hc
      rcases List.mem_or_eq_of_mem_set hy with h | h
      · exact hn.2.2 a ha a (List.mem_flatMap.2 ⟨y, h, hay⟩) rfl
      · subst h
        rcases hb a hay with h | h
        · exact hn.2.2 a ha a (List.mem_flatMap.2 ⟨it, List.mem_of_getElem? hi', h⟩) rfl
        · exact h (by rw [List.flatMap_cons]; exact List.mem_append_left _ ha)
    · intro j hj y hy b hby hbx
      cases j with
      | zero =>
        have : x = y := by simpa using hy
        subst this
        exact hn.2.2 b hby b (List.mem_flatMap.2 ⟨it, List.mem_of_getElem? hi', hbx⟩) rfl
      | succ j => exact ih.2 j (by omega) y (by simpa using hy) b hby hbx

theorem Sep.turn (h : Sep S w0 w l) {it it' : It} (hi : l[i]? = some it) (ho : Only it.blocks w w') (hh : it'.holds w') (hb : ∀ b ∈ it'.blocks, (b ∈ it.blocks ∨ w.heap.size ≤ b) ∧ b < w'.heap.size) (hn : it'.blocks.Nodup) : Sep S w0 w' (l.set i it') := by
  obtain ⟨h1, h2⟩ := flat_set l i it it' hi h.nd (fun b hb' => (hb b hb').1.imp id fun h3 hm => by have := flat_lt h hm; omega) hn
  have ob0 : ∀ b ∈ it.blocks, w0.heap.size ≤ b ∨ b ∈ S := fun b hb => (h.own it (List.mem_of_getElem? hi) b hb).1
  refine ⟨h.only.step ho ob0, ?_, ?_, h1⟩
  · intro x hx
    obtain ⟨j, hj⟩ := List.getElem?_of_mem hx
    rw [List.getElem?_set] at hj
    split at hj
    · split at hj
      · cases hj; exact hh
      · cases hj
    · rename_i hne
      exact It.only (h.holds x (List.mem_of_getElem? hj)) ho (h2 j (fun e => hne e.symm) x hj)
  · intro x hx b hbx
    rcases List.mem_or_eq_of_mem_set hx with hx | rfl
    · exact ⟨(h.own x hx b hbx).1, Nat.lt_of_lt_of_le (h.own x hx b hbx).2 ho.size⟩
    · refine ⟨?_, (hb b hbx).2⟩
      rcases (hb b hbx).1 with h3 | h3
      · exact ob0 b h3
      · exact .inl (Nat.le_trans h.only.size h3)
theorem Sep.write (h : Sep S w0 w l) (hi : l[i]? = some (.blk b cs T)) (hb : Blk w' b cs' T) (ho : Only [b] w w') : Sep S w0 w' (l.set i (.blk b cs' T)) :=
  h.turn hi ho hb (by intro c hc; obtain rfl := List.mem_singleton.1 hc; exact ⟨.inl (by simp [It.blocks]), hb.lt⟩) (by simp [It.blocks])
theorem Sep.wr (h : Sep S w0 w l) (hi : l[i]? = some (.blk b cs T)) (hw : Wr w w' b cs' T) : Sep S w0 w' (l.set i (.blk b cs' T)) := h.write hi hw.blk hw.only

structure Ap (w w' : World) (v v' : Value) (e s n : Nat) (xs : List Value) : Prop where
  own : w'.ownsRow 0 e s v' n xs
  only : Only (ob v) w w'
  blk : ∀ b, sblk v' = some b → sblk v = some b ∨ w.heap.size ≤ b
end
end Go.OB
