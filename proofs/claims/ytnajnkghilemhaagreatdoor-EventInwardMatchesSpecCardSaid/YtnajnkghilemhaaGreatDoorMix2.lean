/- The walk of a region that draws its order: rules. -/
import Derived.Test.YtnajnkghilemhaaGreatDoorMix
import Derived.Test.YtnajnkghilemhaaGreatDoorOps2
namespace Go.OB
open Go.RowKit

def kdOf (κ : List Kd) (i : Nat) : Kd := κ.getD i .pure

def XL (P : Program) (N : Nat) (ops : Array Oper) (κ : List Kd) (K : Env → World → Prop) (k : Nat) (l : List Oper) (ρ : Env) (w : World) : Prop :=
  (∀ j, l[j]? = ops[k + j]?) → ∀ w', Sees w w' → ∀ a, Fits N a ρ → xOps P ops (kdOf κ) (fun a w => ∃ ρ', Fits N a ρ' ∧ K ρ' w) (List.range' k l.length) a w'

section
variable {P : Program} {N : Nat} {ops : Array Oper} {κ : List Kd} {K : Env → World → Prop} {Q : Exit → Env → World → Prop} {k : Nat} {rest : List Oper} {ρ : Env} {w : World} {v : Value} {d : Nat} {op : Op} {ty : TypeId} {pos : String} {af : Array Edge} {g : Option (Nat × Bool)}

theorem WP_mix {id : Nat} {l : List Oper} (κ : List Kd) (hm : P.follows .mixedOrders = true) (hs : Region.noSelect l.toArray = true) (hed : edgesB .any l.toArray = true) (hp : pairB .any l.toArray (kdOf κ) (List.range l.length) = true)
    (h : XL P N l.toArray κ (fun ρ w => Q .normal ρ w) 0 l ρ w) : WP P N (.region id l.toArray true) Q ρ w := by
  intro a ha
  have h1 : ∀ w', Sees w w' → xOps P l.toArray (kdOf κ) (fun a w => liftQ N Q .normal a w) (List.range l.length) a w' := by
    intro w' hw'
    rw [List.range_eq_range']
    exact h (by simp) w' hw' a ha
  have hr := wpAny_of_xOps (P := P) (ops := l.toArray) (kd := kdOf κ) (Q := fun a w => liftQ N Q .normal a w) (md := .any) (Qx := liftQ N Q) (Region.noSelect_spec hs) hed (fun _ _ h => h) l.toArray.size (Array.replicate l.toArray.size false) (List.range l.length) a { w with drawn := w.drawn + 1 }
    (by simp) List.nodup_range (fun i => by
      rw [List.mem_range]
      constructor
      · intro hi; exact ⟨by simpa using hi, by simp [Array.getD_eq_getD_getElem?, hi]⟩
      · exact fun h => by simpa using h.1) hp (by simp) (h1 _ ((Below.refl _ _).drew))
  exact wp_region_any hm hr

theorem XL_nil (h : ∀ w', Sees w w' → K ρ w') : XL P N ops κ K k [] ρ w := fun _ w' hw' _ ha => ⟨ρ, ha, h w' hw'⟩

theorem XL.head {o : Oper} (hl : ∀ j, (o :: rest)[j]? = ops[k + j]?) : ops[k]? = some o := by simpa using (hl 0).symm
theorem XL.tail {o : Oper} (hl : ∀ j, (o :: rest)[j]? = ops[k + j]?) : ∀ j, rest[j]? = ops[k + 1 + j]? := fun j => by
  have := hl (j + 1); simpa [Nat.add_assoc, Nat.add_comm 1 j] using this

theorem zX (hk : kdOf κ k = .pure) (hw : wantE N ops ρ ⟨some d, op, ty, pos, af, g⟩ = true) (hd : Nat.blt d N = true) (h : ∀ w', Do P ⟨some d, op, ty, pos, af, g⟩ ρ w' v w') (n : XL P N ops κ K (k + 1) rest (upd ρ d v) w) :
    XL P N ops κ K k (⟨some d, op, ty, pos, af, g⟩ :: rest) ρ w := by
  intro hl w' hw' a ha
  simp only [List.length_cons, List.range'_succ, xOps]
  unfold xOp
  simp only [XL.head hl, hk]
  refine ⟨v, .inl ⟨by rw [ha.wanted]; exact hw, fun w2 => by rw [ha.eval]; exact h w2⟩, n (XL.tail hl) w' hw' _ (ha.put (yZ hd) v)⟩
theorem XL_offp (hk : kdOf κ k = .pure) (hw : wantE N ops ρ ⟨some d, op, ty, pos, af, g⟩ = false) (hd : Nat.blt d N = true) (n : XL P N ops κ K (k + 1) rest (upd ρ d undef) w) :
    XL P N ops κ K k (⟨some d, op, ty, pos, af, g⟩ :: rest) ρ w := by
  intro hl w' hw' a ha
  simp only [List.length_cons, List.range'_succ, xOps]
  unfold xOp
  simp only [XL.head hl, hk]
  refine ⟨undef, .inr ⟨by rw [ha.wanted]; exact hw, rfl⟩, n (XL.tail hl) w' hw' _ (ha.put (yZ hd) _)⟩
theorem XL_offr (hk : kdOf κ k = .read) (hw : wantE N ops ρ ⟨some d, op, ty, pos, af, g⟩ = false) (hd : Nat.blt d N = true) (n : XL P N ops κ K (k + 1) rest (upd ρ d undef) w) :
    XL P N ops κ K k (⟨some d, op, ty, pos, af, g⟩ :: rest) ρ w := by
  intro hl w' hw' a ha
  simp only [List.length_cons, List.range'_succ, xOps]
  unfold xOp
  simp only [XL.head hl, hk]
  refine ⟨undef, .inr ⟨by rw [ha.wanted]; exact hw, rfl⟩, fun w2 h2 => n (XL.tail hl) w2 (hw'.trans h2) _ (ha.put (yZ hd) _)⟩
theorem xM (hk : kdOf κ k = .read) (hw : wantE N ops ρ ⟨some d, op, ty, pos, af, g⟩ = true) (hd : Nat.blt d N = true) (h : ∀ w', Sees w w' → Do P ⟨some d, op, ty, pos, af, g⟩ ρ w' v w') (n : XL P N ops κ K (k + 1) rest (upd ρ d v) w) :
    XL P N ops κ K k (⟨some d, op, ty, pos, af, g⟩ :: rest) ρ w := by
  intro hl w' hw' a ha
  simp only [List.length_cons, List.range'_succ, xOps]
  unfold xOp
  simp only [XL.head hl, hk]
  refine ⟨v, .inl ⟨by rw [ha.wanted]; exact hw, fun w2 h2 => ?_⟩, fun w2 h2 => n (XL.tail hl) w2 (hw'.trans h2) _ (ha.put (yZ hd) v)⟩
  rw [ha.eval, show (execOp (ev ρ) _).run P w2 = _ from h w2 (hw'.trans h2)]
  exact ⟨rfl, rfl⟩
theorem XL_call {f : FuncId} {args : Array Value} (hk : kdOf κ k = .read) (hw : wantE N ops ρ ⟨some d, op, ty, pos, af, g⟩ = true) (hd : Nat.blt d N = true) (h : ∀ w', Sees w w' → DoC P ⟨some d, op, ty, pos, af, g⟩ ρ w' f args)
    (hc : ∀ w', Sees w w' → Calls P f args w' fun e w'' => e = .returned v ∧ Below w'.heap.size w' w'') (n : XL P N ops κ K (k + 1) rest (upd ρ d v) w) :
    XL P N ops κ K k (⟨some d, op, ty, pos, af, g⟩ :: rest) ρ w := by
  intro hl w' hw' a ha
  simp only [List.length_cons, List.range'_succ, xOps]
  unfold xOp
  simp only [XL.head hl, hk]
  refine ⟨v, .inl ⟨by rw [ha.wanted]; exact hw, fun w2 h2 => ?_⟩, fun w2 h2 => n (XL.tail hl) w2 (hw'.trans h2) _ (ha.put (yZ hd) v)⟩
  rw [ha.eval, show (execOp (ev ρ) _).run P w2 = _ from h w2 (hw'.trans h2)]
  exact ⟨rfl, (hc w2 (hw'.trans h2)).mono fun e w3 ⟨he, hb⟩ => ⟨he, hb⟩⟩
theorem XL_splitb {b : Bool} {x : Operand} (hk : kdOf κ k = .pure) (hw : wantE N ops ρ ⟨some d, .move x, ty, pos, af, g⟩ = true) (hd : Nat.blt d N = true) (hx : ev ρ x = .bool b)
    (ht : b = true → XL P N ops κ K (k + 1) rest (upd ρ d (.bool true)) w) (hf : b = false → XL P N ops κ K (k + 1) rest (upd ρ d (.bool false)) w) : XL P N ops κ K k (⟨some d, .move x, ty, pos, af, g⟩ :: rest) ρ w := by
  refine zX (v := .bool b) hk hw hd (fun w' => by unfold Do; simp [execOp, hx]) ?_
  cases b
  · exact hf rfl
  · exact ht rfl
theorem XL_eff (hk : kdOf κ k = .eff) (hw : wantE N ops ρ ⟨some d, op, ty, pos, af, g⟩ = true) (hd : Nat.blt d N = true)
    (h : ∀ w', Sees w w' → ∃ v w'', Do P ⟨some d, op, ty, pos, af, g⟩ ρ w' v w'' ∧ XL P N ops κ K (k + 1) rest (upd ρ d v) w'') : XL P N ops κ K k (⟨some d, op, ty, pos, af, g⟩ :: rest) ρ w := by
  intro hl w' hw' a ha
  obtain ⟨v, w'', h1, h2⟩ := h w' hw'
  simp only [List.length_cons, List.range'_succ, xOps]
  unfold xOp
  simp only [XL.head hl, hk]
  refine ⟨by rw [ha.wanted]; exact hw, .inl ⟨v, w'', by rw [ha.eval]; exact h1, h2 (XL.tail hl) w'' (Sees.refl _) _ (ha.put (yZ hd) v)⟩⟩
theorem XL_effU (hk : kdOf κ k = .eff) (hw : wantE N ops ρ ⟨none, op, ty, pos, af, g⟩ = true)
    (h : ∀ w', Sees w w' → ∃ w'', DoU P ⟨none, op, ty, pos, af, g⟩ ρ w' w'' ∧ XL P N ops κ K (k + 1) rest ρ w'') : XL P N ops κ K k (⟨none, op, ty, pos, af, g⟩ :: rest) ρ w := by
  intro hl w' hw' a ha
  obtain ⟨w'', h1, h2⟩ := h w' hw'
  simp only [List.length_cons, List.range'_succ, xOps]
  unfold xOp
  simp only [XL.head hl, hk]
  refine ⟨by rw [ha.wanted]; exact hw, .inr (.inl ⟨w'', by rw [ha.eval]; exact h1, h2 (XL.tail hl) w'' (Sees.refl _) _ ha⟩)⟩
theorem XL_effC {f : FuncId} {args : Array Value} {R : World → Ending → World → Prop} (hk : kdOf κ k = .eff) (hw : wantE N ops ρ ⟨some d, op, ty, pos, af, g⟩ = true) (hd : Nat.blt d N = true) (h : ∀ w', Sees w w' → DoC P ⟨some d, op, ty, pos, af, g⟩ ρ w' f args)
    (hc : ∀ w', Sees w w' → Calls P f args w' (R w')) (n : ∀ w' e w'', Sees w w' → R w' e w'' → ∃ v, e = .returned v ∧ XL P N ops κ K (k + 1) rest (upd ρ d v) w'') : XL P N ops κ K k (⟨some d, op, ty, pos, af, g⟩ :: rest) ρ w := by
  intro hl w' hw' a ha
  simp only [List.length_cons, List.range'_succ, xOps]
  unfold xOp
  simp only [XL.head hl, hk]
  refine ⟨by rw [ha.wanted]; exact hw, .inr (.inr ⟨f, args, by rw [ha.eval]; exact h w' hw', (hc w' hw').mono fun e w'' hR => ?_⟩)⟩
  obtain ⟨v, he, hx⟩ := n w' e w'' hw' hR
  exact ⟨v, he, hx (XL.tail hl) w'' (Sees.refl _) _ (ha.put (yZ hd) v)⟩
structure Wx (w w' : World) (b : Nat) (cs : List Value) (T : TypeId) : Prop where
  blk : Blk w' b cs T
  only : Only [b] w w'
end
end Go.OB
