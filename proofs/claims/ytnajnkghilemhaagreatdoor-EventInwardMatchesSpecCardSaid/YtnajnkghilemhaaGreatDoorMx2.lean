/- The walk of a region that draws its order, in an order of the walk's own: rules. -/
import Derived.Test.YtnajnkghilemhaaGreatDoorMx
import Derived.Test.YtnajnkghilemhaaGreatDoorOps4
namespace Go.Mx
open Go.OB
open Go.RowKit

def kdOf (κ : List Kd) (i : Nat) : Kd := κ.getD i .pure

def XL (P : Program) (I : World → Prop) (N : Nat) (ops : Array Oper) (κ : List Kd) (K : Env → World → Prop) (σ : List Nat) (l : List Oper) (ρ : Env) (w : World) : Prop :=
  (l.map some = σ.map fun i => ops[i]?) → ∀ w', Sees w w' → I w' → ∀ a, Fits N a ρ → xOps P I ops (kdOf κ) (fun a w => ∃ ρ', Fits N a ρ' ∧ K ρ' w) σ a w'

section
variable {P : Program} {I : World → Prop} {N : Nat} {ops : Array Oper} {κ : List Kd} {K : Env → World → Prop} {Q : Exit → Env → World → Prop} {k : Nat} {σ : List Nat} {rest : List Oper} {ρ : Env} {w : World} {v : Value} {d : Nat} {op : Op} {ty : TypeId} {pos : String} {af : Array Edge} {g : Option (Nat × Bool)}
def sel (l : List Oper) : List Nat → List Oper
  | [] => []
  | i :: σ => match l[i]? with
    | some o => o :: sel l σ
    | none => []
theorem sel_ok (l : List Oper) : ∀ (σ : List Nat), (∀ i ∈ σ, i < l.length) → (sel l σ).map some = σ.map fun i => l.toArray[i]?
  | [], _ => rfl
  | i :: σ, h => by
    have hi := h i List.mem_cons_self
    have ih := sel_ok l σ (fun j hj => h j (List.mem_cons_of_mem _ hj))
    unfold sel
    rw [List.getElem?_eq_getElem hi]
    simp only [List.map_cons, ih]
    simp [hi]
theorem WP_mix {id : Nat} {l : List Oper} (σ : List Nat) (κ : List Kd) (hm : P.follows .mixedOrders = true) (hs : Region.noSelect l.toArray = true) (hed : edgesB .any l.toArray = true) (hp : pairB .any l.toArray (kdOf κ) σ = true)
    (hσ : σ.isPerm (List.range l.length) = true) (hI : ∀ w w', I w → Sees w w' → I w') (hw : I w) (h : XL P I N l.toArray κ (fun ρ w => Q .normal ρ w) σ (sel l σ) ρ w) : WP P N (.region id l.toArray true) Q ρ w := by
  have hσ : σ.Perm (List.range l.length) := List.isPerm_iff.1 hσ
  intro a ha
  refine wpAny_region (I := I) (σ := σ) hm hs hed hp hσ hI hw (fun w' hw' => ?_)
  exact h (sel_ok l σ fun i hi => List.mem_range.1 (hσ.mem_iff.1 hi)) w' hw' (hI _ _ hw hw') a ha
theorem WP_mix0 {id : Nat} {l : List Oper} (σ : List Nat) (κ : List Kd) (hm : P.follows .mixedOrders = true) (hs : Region.noSelect l.toArray = true) (hed : edgesB .any l.toArray = true) (hp : pairB .any l.toArray (kdOf κ) σ = true)
    (hσ : σ = List.range l.length) (hI : ∀ w w', I w → Sees w w' → I w') (hw : I w) (h : XL P I N l.toArray κ (fun ρ w => Q .normal ρ w) σ l ρ w) : WP P N (.region id l.toArray true) Q ρ w := by
  intro a ha
  refine wpAny_region (I := I) (σ := σ) hm hs hed hp (by rw [hσ]) hI hw (fun w' hw' => ?_)
  refine h ?_ w' hw' (hI _ _ hw hw') a ha
  rw [hσ]
  apply List.ext_getElem
  · simp
  · intro i h1 h2; simp

theorem XL_nil (h : ∀ w', Sees w w' → K ρ w') : XL P I N ops κ K σ [] ρ w := by
  intro hl w' hw' _ _ ha
  have : σ = [] := by
    have := congrArg List.length hl
    simp at this
    exact List.eq_nil_of_length_eq_zero this.symm
  subst this
  exact ⟨ρ, ha, h w' hw'⟩
theorem XL.head {o : Oper} (hl : (o :: rest).map some = (k :: σ).map fun i => ops[i]?) : ops[k]? = some o := by
  simp only [List.map_cons, List.cons.injEq] at hl; exact hl.1.symm
theorem XL.tail {o : Oper} (hl : (o :: rest).map some = (k :: σ).map fun i => ops[i]?) : rest.map some = σ.map fun i => ops[i]? := by
  simp only [List.map_cons, List.cons.injEq] at hl; exact hl.2

theorem zX (hk : kdOf κ k = .pure) (hw : wantE N ops ρ ⟨some d, op, ty, pos, af, g⟩ = true) (hd : Nat.blt d N = true) (h : ∀ w', I w' → Do P ⟨some d, op, ty, pos, af, g⟩ ρ w' v w') (n : XL P I N ops κ K σ rest (upd ρ d v) w) :
    XL P I N ops κ K (k :: σ) (⟨some d, op, ty, pos, af, g⟩ :: rest) ρ w := by
  intro hl w' hw' hI a ha
  simp only [xOps]
  unfold xOp
  simp only [XL.head hl, hk]
  exact ⟨v, .inl ⟨by rw [ha.wanted]; exact hw, fun w2 h2 => by rw [ha.eval]; exact h w2 h2⟩, n (XL.tail hl) w' hw' hI _ (ha.put (yZ hd) v)⟩
theorem XL_offp (hk : kdOf κ k = .pure) (hw : wantE N ops ρ ⟨some d, op, ty, pos, af, g⟩ = false) (hd : Nat.blt d N = true) (n : XL P I N ops κ K σ rest (upd ρ d undef) w) :
    XL P I N ops κ K (k :: σ) (⟨some d, op, ty, pos, af, g⟩ :: rest) ρ w := by
  intro hl w' hw' hI a ha
  simp only [xOps]
  unfold xOp
  simp only [XL.head hl, hk]
  exact ⟨undef, .inr ⟨by rw [ha.wanted]; exact hw, rfl⟩, n (XL.tail hl) w' hw' hI _ (ha.put (yZ hd) _)⟩
theorem XL_offf (hc : ∀ w w', I w → Sees w w' → I w') (hk : kdOf κ k = .fcall) (hw : wantE N ops ρ ⟨some d, op, ty, pos, af, g⟩ = false) (hd : Nat.blt d N = true) (n : XL P I N ops κ K σ rest (upd ρ d undef) w) :
    XL P I N ops κ K (k :: σ) (⟨some d, op, ty, pos, af, g⟩ :: rest) ρ w := by
  intro hl w' hw' hI a ha
  simp only [xOps]
  unfold xOp
  simp only [XL.head hl, hk]
  exact ⟨undef, .inr ⟨by rw [ha.wanted]; exact hw, rfl⟩, fun w2 h2 => n (XL.tail hl) w2 (hw'.trans h2) (hc _ _ hI h2) _ (ha.put (yZ hd) _)⟩
theorem XL_offr (hc : ∀ w w', I w → Sees w w' → I w') (hk : kdOf κ k = .read) (hw : wantE N ops ρ ⟨some d, op, ty, pos, af, g⟩ = false) (hd : Nat.blt d N = true) (n : XL P I N ops κ K σ rest (upd ρ d undef) w) :
    XL P I N ops κ K (k :: σ) (⟨some d, op, ty, pos, af, g⟩ :: rest) ρ w := by
  intro hl w' hw' hI a ha
  simp only [xOps]
  unfold xOp
  simp only [XL.head hl, hk]
  exact ⟨undef, .inr ⟨by rw [ha.wanted]; exact hw, rfl⟩, fun w2 h2 => n (XL.tail hl) w2 (hw'.trans h2) (hc _ _ hI h2) _ (ha.put (yZ hd) _)⟩
theorem xM (hc : ∀ w w', I w → Sees w w' → I w') (hk : kdOf κ k = .read) (hw : wantE N ops ρ ⟨some d, op, ty, pos, af, g⟩ = true) (hd : Nat.blt d N = true) (h : ∀ w', Sees w w' → Do P ⟨some d, op, ty, pos, af, g⟩ ρ w' v w') (n : XL P I N ops κ K σ rest (upd ρ d v) w) :
    XL P I N ops κ K (k :: σ) (⟨some d, op, ty, pos, af, g⟩ :: rest) ρ w := by
  intro hl w' hw' hI a ha
  simp only [xOps]
  unfold xOp
  simp only [XL.head hl, hk]
  refine ⟨v, .inl ⟨by rw [ha.wanted]; exact hw, fun w2 h2 => ?_⟩, fun w2 h2 => n (XL.tail hl) w2 (hw'.trans h2) (hc _ _ hI h2) _ (ha.put (yZ hd) v)⟩
  rw [ha.eval, show (execOp (ev ρ) _).run P w2 = _ from h w2 (hw'.trans h2)]
  exact ⟨rfl, rfl⟩
theorem XL_call {f : FuncId} {args : Array Value} (hC : ∀ w w', I w → Sees w w' → I w') (hk : kdOf κ k = .read) (hw : wantE N ops ρ ⟨some d, op, ty, pos, af, g⟩ = true) (hd : Nat.blt d N = true) (h : ∀ w', Sees w w' → DoC P ⟨some d, op, ty, pos, af, g⟩ ρ w' f args)
    (hc : ∀ w', Sees w w' → Calls P f args w' fun e w'' => e = .returned v ∧ Below w'.heap.size w' w'') (n : XL P I N ops κ K σ rest (upd ρ d v) w) :
    XL P I N ops κ K (k :: σ) (⟨some d, op, ty, pos, af, g⟩ :: rest) ρ w := by
  intro hl w' hw' hI a ha
  simp only [xOps]
  unfold xOp
  simp only [XL.head hl, hk]
  refine ⟨v, .inl ⟨by rw [ha.wanted]; exact hw, fun w2 h2 => ?_⟩, fun w2 h2 => n (XL.tail hl) w2 (hw'.trans h2) (hC _ _ hI h2) _ (ha.put (yZ hd) v)⟩
  rw [ha.eval, show (execOp (ev ρ) _).run P w2 = _ from h w2 (hw'.trans h2)]
  exact ⟨rfl, (hc w2 (hw'.trans h2)).mono fun e w3 ⟨he, hb⟩ => ⟨he, hb⟩⟩
theorem XL_fcall {f : FuncId} {args : Array Value} (hC : ∀ w w', I w → Sees w w' → I w') (hk : kdOf κ k = .fcall) (hw : wantE N ops ρ ⟨some d, op, ty, pos, af, g⟩ = true) (hd : Nat.blt d N = true) (h : ∀ w', I w' → DoC P ⟨some d, op, ty, pos, af, g⟩ ρ w' f args)
    (hc : ∀ w', I w' → Calls P f args w' fun e w'' => e = .returned v ∧ Below w'.heap.size w' w'') (n : XL P I N ops κ K σ rest (upd ρ d v) w) :
    XL P I N ops κ K (k :: σ) (⟨some d, op, ty, pos, af, g⟩ :: rest) ρ w := by
  intro hl w' hw' hI a ha
  simp only [xOps]
  unfold xOp
  simp only [XL.head hl, hk]
  refine ⟨v, .inl ⟨by rw [ha.wanted]; exact hw, fun w2 h2 => ?_⟩, fun w2 h2 => n (XL.tail hl) w2 (hw'.trans h2) (hC _ _ hI h2) _ (ha.put (yZ hd) v)⟩
  rw [ha.eval, show (execOp (ev ρ) _).run P w2 = _ from h w2 h2]
  exact ⟨rfl, (hc w2 h2).mono fun e w3 ⟨he, hb⟩ => ⟨he, hb⟩⟩
theorem XL_splitb {b : Bool} {x : Operand} (hk : kdOf κ k = .pure) (hw : wantE N ops ρ ⟨some d, .move x, ty, pos, af, g⟩ = true) (hd : Nat.blt d N = true) (hx : ev ρ x = .bool b)
    (ht : b = true → XL P I N ops κ K σ rest (upd ρ d (.bool true)) w) (hf : b = false → XL P I N ops κ K σ rest (upd ρ d (.bool false)) w) : XL P I N ops κ K (k :: σ) (⟨some d, .move x, ty, pos, af, g⟩ :: rest) ρ w := by
  refine zX (v := .bool b) hk hw hd (fun w' _ => by unfold Do; simp [execOp, hx]) ?_
  cases b
  · exact hf rfl
  · exact ht rfl
theorem XL_exN {R : World → Value → World → Prop} (hC : ∀ w w', I w → Sees w w' → I w') (hk : kdOf κ k = .new) (hw : wantE N ops ρ ⟨some d, op, ty, pos, af, g⟩ = true) (hd : Nat.blt d N = true)
    (h : ∀ w1, Sees w w1 → ∃ v w', Do P ⟨some d, op, ty, pos, af, g⟩ ρ w1 v w' ∧ Sees w1 w' ∧ R w1 v w') (n : ∀ w1 v w', Sees w w1 → R w1 v w' → XL P I N ops κ K σ rest (upd ρ d v) w') : XL P I N ops κ K (k :: σ) (⟨some d, op, ty, pos, af, g⟩ :: rest) ρ w := by
  intro hl w' hw' hI a ha
  obtain ⟨v, w'', h1, h3, h2⟩ := h w' hw'
  simp only [xOps]
  unfold xOp
  simp only [XL.head hl, hk]
  exact .inl ⟨by rw [ha.wanted]; exact hw, .inl ⟨v, w'', by rw [ha.eval]; exact h1, h3, fun w3 hw3 => n _ _ _ hw' h2 (XL.tail hl) w3 hw3 (hC _ _ (hC _ _ hI h3) hw3) _ (ha.put (yZ hd) v)⟩⟩
theorem XL_newC {f : FuncId} {args : Array Value} {R : World → Ending → World → Prop} (hC : ∀ w w', I w → Sees w w' → I w') (hk : kdOf κ k = .new) (hw : wantE N ops ρ ⟨some d, op, ty, pos, af, g⟩ = true) (hd : Nat.blt d N = true) (h : ∀ w', Sees w w' → DoC P ⟨some d, op, ty, pos, af, g⟩ ρ w' f args)
    (hc : ∀ w', Sees w w' → Calls P f args w' (R w')) (n : ∀ w' e w'', Sees w w' → R w' e w'' → ∃ v, e = .returned v ∧ Sees w' w'' ∧ XL P I N ops κ K σ rest (upd ρ d v) w'') : XL P I N ops κ K (k :: σ) (⟨some d, op, ty, pos, af, g⟩ :: rest) ρ w := by
  intro hl w' hw' hI a ha
  simp only [xOps]
  unfold xOp
  simp only [XL.head hl, hk]
  refine .inl ⟨by rw [ha.wanted]; exact hw, .inr ⟨f, args, by rw [ha.eval]; exact h w' hw', (hc w' hw').mono fun e w'' hR => ?_⟩⟩
  obtain ⟨v, he, hs, hx⟩ := n w' e w'' hw' hR
  exact ⟨v, he, hs, fun w3 hw3 => hx (XL.tail hl) w3 hw3 (hC _ _ (hC _ _ hI hs) hw3) _ (ha.put (yZ hd) v)⟩
theorem XL_ex {R : World → Value → World → Prop} (hC : ∀ w w', I w → Sees w w' → I w') (hk : kdOf κ k = .eff) (hw : wantE N ops ρ ⟨some d, op, ty, pos, af, g⟩ = true) (hd : Nat.blt d N = true) (h : ∀ w1, Sees w w1 → ∃ v w', Do P ⟨some d, op, ty, pos, af, g⟩ ρ w1 v w' ∧ R w1 v w')
    (n : ∀ w1 v w', Sees w w1 → R w1 v w' → I w' ∧ XL P I N ops κ K σ rest (upd ρ d v) w') : XL P I N ops κ K (k :: σ) (⟨some d, op, ty, pos, af, g⟩ :: rest) ρ w := by
  intro hl w' hw' hI a ha
  obtain ⟨v, w'', h1, h2⟩ := h w' hw'
  simp only [xOps]
  unfold xOp
  simp only [XL.head hl, hk]
  have h3 := n _ _ _ hw' h2
  exact .inl ⟨by rw [ha.wanted]; exact hw, .inl ⟨v, w'', by rw [ha.eval]; exact h1, h3.1, fun w3 hw3 => h3.2 (XL.tail hl) w3 hw3 (hC _ _ h3.1 hw3) _ (ha.put (yZ hd) v)⟩⟩
theorem XL_exU {R : World → World → Prop} (hC : ∀ w w', I w → Sees w w' → I w') (hk : kdOf κ k = .eff) (hw : wantE N ops ρ ⟨none, op, ty, pos, af, g⟩ = true) (h : ∀ w1, Sees w w1 → ∃ w', DoU P ⟨none, op, ty, pos, af, g⟩ ρ w1 w' ∧ R w1 w')
    (n : ∀ w1 w', Sees w w1 → R w1 w' → I w' ∧ XL P I N ops κ K σ rest ρ w') : XL P I N ops κ K (k :: σ) (⟨none, op, ty, pos, af, g⟩ :: rest) ρ w := by
  intro hl w' hw' hI a ha
  obtain ⟨w'', h1, h2⟩ := h w' hw'
  simp only [xOps]
  unfold xOp
  simp only [XL.head hl, hk]
  have h3 := n _ _ hw' h2
  exact .inl ⟨by rw [ha.wanted]; exact hw, .inr (.inl ⟨w'', by rw [ha.eval]; exact h1, h3.1, fun w3 hw3 => h3.2 (XL.tail hl) w3 hw3 (hC _ _ h3.1 hw3) _ ha⟩)⟩
theorem XL_effC {f : FuncId} {args : Array Value} {R : World → Ending → World → Prop} (hC : ∀ w w', I w → Sees w w' → I w') (hk : kdOf κ k = .eff) (hw : wantE N ops ρ ⟨some d, op, ty, pos, af, g⟩ = true) (hd : Nat.blt d N = true) (h : ∀ w', Sees w w' → DoC P ⟨some d, op, ty, pos, af, g⟩ ρ w' f args)
    (hc : ∀ w', Sees w w' → Calls P f args w' (R w')) (n : ∀ w' e w'', Sees w w' → R w' e w'' → ∃ v, e = .returned v ∧ I w'' ∧ XL P I N ops κ K σ rest (upd ρ d v) w'') : XL P I N ops κ K (k :: σ) (⟨some d, op, ty, pos, af, g⟩ :: rest) ρ w := by
  intro hl w' hw' hI a ha
  simp only [xOps]
  unfold xOp
  simp only [XL.head hl, hk]
  refine .inl ⟨by rw [ha.wanted]; exact hw, .inr (.inr ⟨f, args, by rw [ha.eval]; exact h w' hw', (hc w' hw').mono fun e w'' hR => ?_⟩)⟩
  obtain ⟨v, he, hs, hx⟩ := n w' e w'' hw' hR
  exact ⟨v, he, hs, fun w3 hw3 => hx (XL.tail hl) w3 hw3 (hC _ _ hs hw3) _ (ha.put (yZ hd) v)⟩
theorem XL_exP {R : Value → Prop} (hk : kdOf κ k = .pure) (hw : wantE N ops ρ ⟨some d, op, ty, pos, af, g⟩ = true) (hd : Nat.blt d N = true) (h : ∃ v, (∀ w', Do P ⟨some d, op, ty, pos, af, g⟩ ρ w' v w') ∧ R v) (n : ∀ v, R v → XL P I N ops κ K σ rest (upd ρ d v) w) :
    XL P I N ops κ K (k :: σ) (⟨some d, op, ty, pos, af, g⟩ :: rest) ρ w := by
  obtain ⟨v, h1, h2⟩ := h
  exact zX hk hw hd (fun w' _ => h1 w') (n v h2)
end
end Go.Mx
