/- Regions in parts: where ways within a region meet. -/
import Derived.Test.YtnajnkghilemhaaGreatDoorDfr
namespace Go.Lf
open Go.RowKit Go.OB
section
variable {P : Program} {ops : Array Oper} {a : Act} {w : World}
theorem upon_q {o : Oper} {K K' : Act → World → Prop} {Q Q' : Exit → Act → World → Prop} (hk : ∀ a w, K a w → K' a w) (hq : ∀ e a w, e ≠ .normal → Q e a w → Q' e a w) (h : o.wp P a w K Q) : o.wp P a w K' Q' := by
  unfold Oper.wp Oper.upon at *
  split at h <;> first
    | exact hk _ _ h
    | exact hq _ _ _ (by simp) h
    | exact h.elim
    | (refine Calls.mono h fun e w' hr => ?_
       cases e with
       | returned v => exact hk _ _ hr
       | panicked ch => exact hq _ _ _ (by simp) hr
       | outgrown => obtain ⟨a0, w0, h0⟩ := hr; exact ⟨a0, w0, hq _ _ _ (by simp) h0⟩)
    | (intro fr cs; obtain ⟨v, w'', hR, hs⟩ := h fr cs; exact ⟨v, w'', hk _ _ hR, hs⟩)
theorem wpList_cut {Q : Exit → Act → World → Prop} : ∀ (l : List Oper) (k : Nat) (a : Act) (w : World), wpList P ops (fun e a w => match e with | .normal => wpList P ops Q (l.drop k) a w | e => Q e a w) (l.take k) a w → wpList P ops Q l a w
  | l, 0, a, w, h => by simpa [wpList] using h
  | [], k + 1, a, w, h => by simpa [wpList] using h
  | o :: l, k + 1, a, w, h => by
    rw [List.take_succ_cons, wpList] at h
    rw [wpList]
    simp only [List.drop_succ_cons] at h
    split at h
    · rename_i hw
      rw [if_pos hw]
      rcases h with h | ⟨h1, a0, w0, h2⟩
      · exact .inl (upon_q (fun a w h => wpList_cut l k a w h) (fun e a w he h => by cases e <;> first | exact h | exact absurd rfl he) h)
      · exact .inr ⟨h1, a0, w0, h2⟩
    · rename_i hw
      rw [if_neg hw]
      exact wpList_cut l k _ _ h
theorem RL_cutS {N : Nat} {Q : Exit → Env → World → Prop} {ρ : Env} {l : List Oper} (k : Nat) (W : List Nat) (S : List (Nat × Value)) (I : World → Prop)
    (h : RL P N ops (thenQ (fun ρ' w' => Fr W ρ ρ' ∧ Sl ρ' S ∧ I w') Q) (l.take k) ρ w) (kk : ∀ ρ1 w1, I w1 → RL P N ops Q (l.drop k) (over ρ ρ1 W S) w1) : RL P N ops Q l ρ w := by
  intro a ha
  refine wpList_cut l k a w ?_
  have mono : ∀ (l1 : List Oper) (a : Act) (w : World), wpList P ops (liftQ N (thenQ (fun ρ' w' => Fr W ρ ρ' ∧ Sl ρ' S ∧ I w') Q)) l1 a w → wpList P ops (fun e a w => match e with | .normal => wpList P ops (liftQ N Q) (l.drop k) a w | e => liftQ N Q e a w) l1 a w := by
    have nrm : ∀ a w, liftQ N (thenQ (fun ρ' w' => Fr W ρ ρ' ∧ Sl ρ' S ∧ I w') Q) .normal a w → wpList P ops (liftQ N Q) (l.drop k) a w := by
      rintro a w ⟨ρ', hf, h1, h2, h3⟩
      have q := kk ρ' w h3
      rw [over_eq h1 h2] at q
      exact q a hf
    intro l1
    induction l1 with
    | nil => intro a w h; rw [wpList] at h ⊢; exact nrm a w h
    | cons o l1 ih =>
      intro a w h
      rw [wpList] at h ⊢
      split at h
      · rename_i hw
        rw [if_pos hw]
        rcases h with h | ⟨h1, a0, w0, h2⟩
        · exact .inl (upon_q ih (fun e a w he h => by cases e <;> first | exact h | exact absurd rfl he) h)
        · exact .inr ⟨h1, a0, w0, h2⟩
      · rename_i hw
        rw [if_neg hw]
        exact ih _ _ h
  exact mono _ a w (h a ha)
end
theorem meet {W : List Nat} {ρ ρ' : Env} {B : Prop} (h : B) (hf : Fr W ρ ρ' := by repeat' (first | with_reducible exact Fr_refl | refine Fr_upd rfl ?_ | refine Fr_over rfl rfl ?_)) : Fr W ρ ρ' ∧ B := ⟨hf, h⟩
theorem someI {α : Type} {a b : α} (h : some a = some b) : a = b := Option.some.inj h
theorem zS {P : Program} {o : Oper} {ρ : Env} {w w' : World} {b c : Bool} (h : Do P o ρ w (.bool b) w') (e : b = c) : Do P o ρ w (.bool c) w' := e ▸ h
section
variable {P : Program} {N : Nat} {ops : Array Oper} {Q : Exit → Env → World → Prop} {rest : List Oper} {ρ : Env} {w w' : World} {v : Value} {d : Nat} {op : Op} {ty : TypeId} {pos : String} {af : Array Edge} {g : Option (Nat × Bool)}
theorem zH (h : Do P ⟨some d, op, ty, pos, af, g⟩ ρ w v w') (k : RL P N ops Q rest (upd ρ d v) w') (hw : wantE N ops ρ ⟨some d, op, ty, pos, af, g⟩ = true := by exact rfl) (hd : Nat.blt d N = true := by exact rfl) : RL P N ops Q (⟨some d, op, ty, pos, af, g⟩ :: rest) ρ w := RL_do hw hd h k
theorem yD (k : RL P N ops Q rest (upd ρ d undef) w) (hw : wantE N ops ρ ⟨some d, op, ty, pos, af, g⟩ = false := by exact rfl) (hd : Nat.blt d N = true := by exact rfl) : RL P N ops Q (⟨some d, op, ty, pos, af, g⟩ :: rest) ρ w := RL_off hw hd k
theorem zM {x : Operand} (v : Value) (k : RL P N ops Q rest (upd ρ d v) w) (h : ev ρ x = v := by exact rfl) (hw : wantE N ops ρ ⟨some d, .move x, ty, pos, af, g⟩ = true := by exact rfl) (hd : Nat.blt d N = true := by exact rfl) : RL P N ops Q (⟨some d, .move x, ty, pos, af, g⟩ :: rest) ρ w := RL_do hw hd (xI h) k
theorem zI {x : Operand} (v : Value) (k : RL P N ops Q rest (upd ρ d v) w) (h : ev ρ x = v := by exact rfl) (hw : wantE N ops ρ ⟨some d, .assign x, ty, pos, af, g⟩ = true := by exact rfl) (hd : Nat.blt d N = true := by exact rfl) : RL P N ops Q (⟨some d, .assign x, ty, pos, af, g⟩ :: rest) ρ w := RL_do hw hd (xU h) k
end
end Go.Lf
