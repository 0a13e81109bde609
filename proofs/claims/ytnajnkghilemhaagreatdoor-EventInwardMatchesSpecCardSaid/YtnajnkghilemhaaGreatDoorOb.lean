/- Rules for walking Go code with the frame as a function from slots to values: one rule for each kind of operation. -/
import Derived.WalkKit
import Derived.WalkSpells
import Derived.WalkLawsBesides
import Derived.Deep.Quiet
namespace Go.OB
open Go.RowKit

abbrev Env := Nat → Value
def upd (ρ : Env) (d : Nat) (v : Value) : Env := fun i => if i = d then v else ρ i
def updo (ρ : Env) : Option Tmp → Value → Env
  | some d, v => upd ρ d v
  | none, _ => ρ
def ev (ρ : Env) : Operand → Value
  | .tmp t => ρ t
  | .const v => v
  | .global g => .pointer (some ⟨g, 0, none⟩)
  | .func f => .func (.func f) #[] #[]
def dstOk (N : Nat) : Option Tmp → Bool
  | some d => decide (d < N)
  | none => true

structure Fits (N : Nat) (a : Act) (ρ : Env) : Prop where
  size : a.tmps.size = N
  dfr : a.defers = []
  get : ∀ i, a.tmps.getD i undef = ρ i

theorem Fits.eval {N : Nat} {a : Act} {ρ : Env} (h : Fits N a ρ) : a.eval = ev ρ := by
  funext x
  cases x <;> simp only [Act.eval, ev, h.get]

theorem Fits.put {N : Nat} {a : Act} {ρ : Env} (h : Fits N a ρ) {d : Option Tmp} (hd : dstOk N d = true) (v : Value) :
    Fits N (a.put d v) (updo ρ d v) := by
  cases d with
  | none => exact h
  | some d =>
    have hd' : d < a.tmps.size := by rw [h.size]; simpa [dstOk] using hd
    refine ⟨by simp [Act.put, h.size], by simp [Act.put, h.dfr], fun i => ?_⟩
    show (a.tmps.setIfInBounds d v).getD i undef = upd ρ d v i
    unfold upd
    rw [← h.get i]
    simp only [Array.getD_eq_getD_getElem?, Array.getElem?_setIfInBounds]
    by_cases hi : i = d
    · subst hi; simp [hd']
    · simp [hi, Ne.symm hi]

def liftQ (N : Nat) (Q : Exit → Env → World → Prop) : Exit → Act → World → Prop := fun e a w => ∃ ρ, Fits N a ρ ∧ Q e ρ w

def WP (P : Program) (N : Nat) (c : Code) (Q : Exit → Env → World → Prop) (ρ : Env) (w : World) : Prop :=
  ∀ a, Fits N a ρ → c.wp P (liftQ N Q) a w

def thenQ (K : Env → World → Prop) (Q : Exit → Env → World → Prop) : Exit → Env → World → Prop
  | .normal, ρ, w => K ρ w
  | e, ρ, w => Q e ρ w

def blockQ (id : Nat) (Q : Exit → Env → World → Prop) : Exit → Env → World → Prop
  | .exit id', ρ, w => if id' = id then Q .normal ρ w else Q (.exit id') ρ w
  | e, ρ, w => Q e ρ w

section wp
variable {P : Program} {N : Nat} {Q : Exit → Env → World → Prop} {ρ : Env} {w : World}

theorem WP.mono {c : Code} {Q' : Exit → Env → World → Prop} (h : WP P N c Q ρ w) (hq : ∀ e ρ w, Q e ρ w → Q' e ρ w) : WP P N c Q' ρ w :=
  fun a ha => wp_mono (h a ha) fun _ _ _ ⟨ρ, hf, hx⟩ => ⟨ρ, hf, hq _ _ _ hx⟩

theorem WP_seq {x y : Code} {K : Env → World → Prop} (h : WP P N x (thenQ K Q) ρ w) (hK : ∀ ρ w, K ρ w → WP P N y Q ρ w) : WP P N (.seq x y) Q ρ w := by
  intro a ha
  refine wp_seq (wp_mono (h a ha) ?_)
  rintro e a' w' ⟨ρ', hf, hq⟩
  cases e <;> first | exact hK _ _ hq a' hf | exact ⟨ρ', hf, hq⟩

theorem zC {x y : Code} (h : ∀ K : Env → World → Prop, (∀ ρ w, WP P N y Q ρ w → K ρ w) → WP P N x (thenQ K Q) ρ w) : WP P N (.seq x y) Q ρ w :=
  WP_seq (h _ fun _ _ h => h) fun _ _ h => h

theorem yA (h : Q .normal ρ w) : WP P N .skip Q ρ w := fun _ ha => wp_skip ⟨ρ, ha, h⟩
theorem xW {id : Nat} (h : Q (.exit id) ρ w) : WP P N (.exit id) Q ρ w := fun _ ha => wp_exit ⟨ρ, ha, h⟩
theorem zZ (h : Q .ret ρ w) : WP P N .ret Q ρ w := fun _ ha => wp_ret ⟨ρ, ha, h⟩

theorem yJ {id : Nat} {c : Code} (h : WP P N c (blockQ id Q) ρ w) : WP P N (.block id c) Q ρ w := by
  intro a ha
  refine wp_block (wp_mono (h a ha) ?_)
  rintro e a' w' ⟨ρ', hf, hq⟩
  cases e with
  | exit id' =>
    simp only [blockQ] at hq
    simp only [Exit.inBlock]
    split
    · rename_i hid; rw [if_pos hid] at hq; exact ⟨ρ', hf, hq⟩
    · rename_i hid; rw [if_neg hid] at hq; exact ⟨ρ', hf, hq⟩
  | _ => exact ⟨ρ', hf, hq⟩

theorem WP_if {c : Operand} {x y : Code} {p : Prop} [Decidable p] (hc : ev ρ c = .bool (decide p)) (ht : p → WP P N x Q ρ w) (hf : ¬ p → WP P N y Q ρ w) : WP P N (.cond c x y) Q ρ w := by
  intro a ha
  refine wp_cond_split (t := decide p) (by rw [ha.eval]; exact hc) (fun h => ht (by simpa using h) a ha) (fun h => hf (by simpa using h) a ha)

theorem zW {c : Operand} {x y : Code} {b : Bool} (hc : ev ρ c = .bool b) (ht : b = true → WP P N x Q ρ w) (hf : b = false → WP P N y Q ρ w) : WP P N (.cond c x y) Q ρ w := by
  intro a ha
  exact wp_cond_split (t := b) (by rw [ha.eval]; exact hc) (fun h => ht h a ha) (fun h => hf h a ha)

theorem zA {K : Env → World → Prop} (h : K ρ w) : thenQ K Q .normal ρ w := h
theorem zY {K : Env → World → Prop} (h : Q .ret ρ w) : thenQ K Q .ret ρ w := h
theorem yT {K : Env → World → Prop} {i : Nat} (h : Q (.exit i) ρ w) : thenQ K Q (.exit i) ρ w := h
theorem yR {id : Nat} (h : Q .normal ρ w) : blockQ id Q .normal ρ w := h
theorem yF {id : Nat} (h : Q .ret ρ w) : blockQ id Q .ret ρ w := h
theorem xG {id : Nat} (h : Q .normal ρ w) : blockQ id Q (.exit id) ρ w := by simp only [blockQ, if_true]; exact h
theorem wp_loop_ghost {c : Code} {G : Type} {Q : Exit → Act → World → Prop} {a : Act} {w : World} (I : G → Act → World → Prop) (μ : G → Nat) (g : G) (h₀ : I g a w)
    (round : ∀ g a w, I g a w → c.wp P (Exit.then (fun a' w' => ∃ g', I g' a' w' ∧ μ g' < μ g) Q) a w) : (Code.loop c).wp P Q a w := by
  intro b k cs
  have key : ∀ n g a w, μ g = n → I g a w →
      ∃ e a' w', Q e a' w' ∧ Arrives P (lone (b.at a (.code c :: .inLoop c :: k)) cs w) b k cs e a' w' := by
    intro n
    induction n using Nat.strongRecOn with
    | _ n ih =>
      intro g a w hn hI
      obtain ⟨e, a₁, w₁, hq, harr⟩ := round g a w hI b (.inLoop c :: k) cs
      cases e with
      | normal =>
        obtain ⟨g₁, hI₁, hlt⟩ := hq
        obtain ⟨e₂, a₂, w₂, hq₂, harr₂⟩ := ih (μ g₁) (hn ▸ hlt) g₁ a₁ w₁ rfl hI₁
        exact ⟨e₂, a₂, w₂, hq₂, .of_steps (Steps.trans harr (.one step_inLoop)) harr₂⟩
      | exit id => exact ⟨_, a₁, w₁, hq, .pass (x := .inLoop c) rfl (fun _ _ => .inl (by simp)) harr⟩
      | goto l => exact ⟨_, a₁, w₁, hq, .pass (x := .inLoop c) rfl (fun _ _ => .inl (by simp)) harr⟩
      | ret => exact ⟨_, a₁, w₁, hq, .pass (x := .inLoop c) rfl (fun _ _ => .inl (by simp)) harr⟩
      | panic ch => exact ⟨_, a₁, w₁, hq, .pass (x := .inLoop c) rfl (fun _ _ => .inl (by simp)) harr⟩
      | outgrown => exact ⟨_, a₁, w₁, hq, .pass (x := .inLoop c) rfl (fun _ _ => .inl (by simp)) harr⟩
  obtain ⟨e, a', w', hq, harr⟩ := key _ g a w rfl h₀
  exact ⟨e, a', w', hq, .of_steps (.one step_loop) harr⟩

theorem WP_loopg {c : Code} {G : Type} (I : G → Env → World → Prop) (μ : G → Nat) (g : G) (h₀ : I g ρ w)
    (round : ∀ g ρ w, I g ρ w → WP P N c (thenQ (fun ρ' w' => ∃ g', I g' ρ' w' ∧ μ g' < μ g) Q) ρ w) : WP P N (.loop c) Q ρ w := by
  intro a ha
  refine wp_loop_ghost (fun g a w => ∃ ρ, Fits N a ρ ∧ I g ρ w) μ g ⟨ρ, ha, h₀⟩ ?_
  rintro g a w ⟨ρ, hf, hI⟩
  refine wp_mono (round g ρ w hI a hf) ?_
  rintro e a' w' ⟨ρ', hf', hq⟩
  cases e with
  | normal => obtain ⟨g', hI', hlt⟩ := hq; exact ⟨g', ⟨ρ', hf', hI'⟩, hlt⟩
  | _ => exact ⟨ρ', hf', hq⟩
end wp

/-! ### Entering a function -/
def env0 : List Value → Env
  | [], _ => undef
  | v :: _, 0 => v
  | _ :: l, i + 1 => env0 l i

theorem env0_get : ∀ (l : List Value) (i : Nat), l.getD i undef = env0 l i
  | [], i => by simp [env0]
  | v :: l, 0 => by simp [env0]
  | v :: l, i + 1 => by
    have := env0_get l i
    simpa [env0] using this

def resultsE (rs : Array ResultVar) (ρ : Env) : Sem Value := do
  let vs ← rs.mapM fun
    | .tmp t => pure (ρ t)
    | .cell a t => do loadVar t (← asAddr (ρ a))
  pure (if h : vs.size = 1 then vs[0] else .tuple vs)

theorem results_env {fn : Func} {a : Act} {N : Nat} {ρ : Env} (h : Fits N a ρ) : results fn a.tmps = resultsE fn.results ρ := by
  unfold results resultsE
  simp only [h.get]
  rfl

def postE (P : Program) (rs : Array ResultVar) (R : Ending → World → Prop) : Exit → Env → World → Prop
  | .normal, ρ, w | .ret, ρ, w => ∃ v, (resultsE rs ρ).run P w = .ok v w ∧ R (.returned v) w
  | .panic chain, _, w => R (.panicked chain) w
  | _, _, _ => False

theorem yB {P : Program} {f : FuncId} {fn : Func} {c : Code} {args : List Value} {w : World} {R : Ending → World → Prop} (N : Nat)
    (hf : P.funcs[f]? = some fn) (hb : fn.body = some c) (hN : fn.ntmps = N) (hl : Nat.ble args.length N = true)
    (h : WP P N c (postE P fn.results R) (env0 args) w) : Calls P f args.toArray w R := by
  refine calls_of_wp hf hb ?_
  have hl := Nat.le_of_ble_eq_true hl
  subst hN
  have hfit : Fits fn.ntmps { tmps := args.toArray ++ Array.replicate (fn.ntmps - args.toArray.size) undef, defers := [] } (env0 args) := by
    refine ⟨by simp; omega, rfl, fun i => ?_⟩
    rw [← env0_get]
    simp only [Array.getD_eq_getD_getElem?, Array.getElem?_append, List.getD_eq_getElem?_getD, List.size_toArray, Array.getElem?_replicate, List.getElem?_toArray]
    split
    · rfl
    · rename_i hi
      rw [List.getElem?_eq_none (by omega)]
      split <;> rfl
  refine wp_mono (h _ hfit) ?_
  rintro e a w ⟨ρ, hf, hq⟩
  cases e <;> simp only [postE] at hq <;> simp only [bodyPost]
  case normal => obtain ⟨v, h1, h2⟩ := hq; exact ⟨hf.dfr, v, by rw [results_env hf]; exact h1, h2⟩
  case ret => obtain ⟨v, h1, h2⟩ := hq; exact ⟨hf.dfr, v, by rw [results_env hf]; exact h1, h2⟩
  case panic ch => exact ⟨hf.dfr, hq⟩

section res
variable {P : Program} {ρ : Env} {w : World} {R : Ending → World → Prop}
theorem ret0 (h : R (.returned (.tuple #[])) w) : ∃ v, (resultsE #[] ρ).run P w = .ok v w ∧ R (.returned v) w :=
  ⟨_, by simp [resultsE], h⟩
theorem ret1 {t : Tmp} (h : R (.returned (ρ t)) w) : ∃ v, (resultsE #[.tmp t] ρ).run P w = .ok v w ∧ R (.returned v) w :=
  ⟨_, by simp [resultsE], h⟩
theorem ret2 {t u : Tmp} (h : R (.returned (.tuple #[ρ t, ρ u])) w) : ∃ v, (resultsE #[.tmp t, .tmp u] ρ).run P w = .ok v w ∧ R (.returned v) w :=
  ⟨_, by simp [resultsE], h⟩
theorem retc1 {t : Tmp} {ty : TypeId} {a : Addr} {v : Value} (ha : ρ t = .pointer (some a)) (hl : (loadVar ty a).run P w = .ok v w) (h : R (.returned v) w) :
    ∃ v, (resultsE #[.cell t ty] ρ).run P w = .ok v w ∧ R (.returned v) w :=
  ⟨_, by simp [resultsE, ha, asAddr, hl], h⟩
theorem retc1t1 {t u : Tmp} {ty : TypeId} {a : Addr} {v : Value} (ha : ρ t = .pointer (some a)) (hl : (loadVar ty a).run P w = .ok v w) (h : R (.returned (.tuple #[v, ρ u])) w) :
    ∃ v, (resultsE #[.cell t ty, .tmp u] ρ).run P w = .ok v w ∧ R (.returned v) w :=
  ⟨_, by simp [resultsE, ha, asAddr, hl], h⟩
theorem retc1t2 {t u x : Tmp} {ty : TypeId} {a : Addr} {v : Value} (ha : ρ t = .pointer (some a)) (hl : (loadVar ty a).run P w = .ok v w) (h : R (.returned (.tuple #[v, ρ u, ρ x])) w) :
    ∃ v, (resultsE #[.cell t ty, .tmp u, .tmp x] ρ).run P w = .ok v w ∧ R (.returned v) w :=
  ⟨_, by simp [resultsE, ha, asAddr, hl], h⟩
variable {rs : Array ResultVar} {v1 v2 v3 : Value} {t u x : Tmp} {ty : TypeId} {a : Addr} {v : Value}
theorem post0 (hr : rs = #[]) (h : R (.returned (.tuple #[])) w) : postE P rs R .ret ρ w := by subst hr; exact ret0 h
theorem post0n (hr : rs = #[]) (h : R (.returned (.tuple #[])) w) : postE P rs R .normal ρ w := by subst hr; exact ret0 h
theorem post1 (hr : rs = #[.tmp t]) (h1 : ρ t = v1) (h : R (.returned v1) w) : postE P rs R .ret ρ w := by subst hr h1; exact ret1 h
theorem post2 (hr : rs = #[.tmp t, .tmp u]) (h1 : ρ t = v1) (h2 : ρ u = v2) (h : R (.returned (.tuple #[v1, v2])) w) : postE P rs R .ret ρ w := by subst hr h1 h2; exact ret2 h
theorem postc (hr : rs = #[.cell t ty]) (ha : ρ t = .pointer (some a)) (hl : (loadVar ty a).run P w = .ok v w) (h : R (.returned v) w) : postE P rs R .ret ρ w := by subst hr; exact retc1 ha hl h
theorem postc1 (hr : rs = #[.cell t ty, .tmp u]) (ha : ρ t = .pointer (some a)) (hl : (loadVar ty a).run P w = .ok v w) (h1 : ρ u = v1) (h : R (.returned (.tuple #[v, v1])) w) : postE P rs R .ret ρ w := by subst hr h1; exact retc1t1 ha hl h
theorem postc2 (hr : rs = #[.cell t ty, .tmp u, .tmp x]) (ha : ρ t = .pointer (some a)) (hl : (loadVar ty a).run P w = .ok v w) (h1 : ρ u = v1) (h2 : ρ x = v2) (h : R (.returned (.tuple #[v, v1, v2])) w) : postE P rs R .ret ρ w := by subst hr h1 h2; exact retc1t2 ha hl h
end res

/-! ### Regions: lists of operations -/
def wantE (N : Nat) (ops : Array Oper) (ρ : Env) (o : Oper) : Bool :=
  match o.guard with
  | none => true
  | some (j, b) => match (ops[j]?).bind (·.dst) with
    | some d => decide (d < N) && (match ρ d with | .bool x => x == b | _ => false)
    | none => false

theorem Fits.wanted {N : Nat} {a : Act} {ρ : Env} (h : Fits N a ρ) (ops : Array Oper) (o : Oper) : Region.wanted o (yielded ops a.tmps) = wantE N ops ρ o := by
  unfold Region.wanted wantE yielded
  cases o.guard with
  | none => rfl
  | some jb =>
    obtain ⟨j, b⟩ := jb
    simp only
    cases hd : (ops[j]?).bind (·.dst) with
    | none => simp
    | some d =>
      simp only [Option.bind_some]
      by_cases hlt : d < N
      · have h1 : a.tmps[d]? = some (ρ d) := by
          have := h.get d
          rw [Array.getD_eq_getD_getElem?] at this
          rw [Array.getElem?_eq_getElem (by rw [h.size]; exact hlt)] at this ⊢
          simpa using this
        rw [h1]
        simp only [hlt, decide_true, Bool.true_and]
        cases ρ d <;> simp
      · have h1 : a.tmps[d]? = none := Array.getElem?_eq_none (by rw [h.size]; exact Nat.not_lt.mp hlt)
        rw [h1]
        simp [hlt]

def RL (P : Program) (N : Nat) (ops : Array Oper) (Q : Exit → Env → World → Prop) (l : List Oper) (ρ : Env) (w : World) : Prop :=
  ∀ a, Fits N a ρ → wpList P ops (liftQ N Q) l a w

def Do (P : Program) (o : Oper) (ρ : Env) (w : World) (v : Value) (w' : World) : Prop := (execOp (ev ρ) o).run P w = .ok (.value v) w'
def DoU (P : Program) (o : Oper) (ρ : Env) (w : World) (w' : World) : Prop := (execOp (ev ρ) o).run P w = .ok .skip w'
def DoC (P : Program) (o : Oper) (ρ : Env) (w : World) (f : FuncId) (args : Array Value) : Prop := (execOp (ev ρ) o).run P w = .ok (.enter f args) w

section rl
variable {P : Program} {N : Nat} {ops : Array Oper} {Q : Exit → Env → World → Prop} {o : Oper} {rest : List Oper} {ρ : Env} {w w' : World} {v : Value} {d : Nat} {op : Op} {ty : TypeId} {pos : String} {af : Array Edge} {g : Option (Nat × Bool)}

theorem zB {id : Nat} {l : List Oper} (h : RL P N l.toArray Q l ρ w) : WP P N (.region id l.toArray false) Q ρ w :=
  fun a ha => wp_region_lit (h a ha)

theorem zF (h : Q .normal ρ w) : RL P N ops Q [] ρ w := fun _ ha => wpList_nil ⟨ρ, ha, h⟩

theorem yZ (hd : Nat.blt d N = true) : dstOk N (some d) = true := by
  have h : d + 1 ≤ N := by simpa [Nat.blt] using hd
  simp only [dstOk, decide_eq_true_eq]; exact Nat.lt_of_succ_le h

theorem RL_do (hw : wantE N ops ρ ⟨some d, op, ty, pos, af, g⟩ = true) (hd : Nat.blt d N = true) (h : Do P ⟨some d, op, ty, pos, af, g⟩ ρ w v w') (k : RL P N ops Q rest (upd ρ d v) w') : RL P N ops Q (⟨some d, op, ty, pos, af, g⟩ :: rest) ρ w := by
  intro a ha
  unfold wpList
  rw [ha.wanted, hw, if_pos rfl]
  refine .inl ?_
  unfold Oper.wp
  rw [ha.eval, show (execOp (ev ρ) _).run P w = _ from h]
  exact k _ (ha.put (yZ hd) v)

theorem RL_doU (hw : wantE N ops ρ ⟨none, op, ty, pos, af, g⟩ = true) (h : DoU P ⟨none, op, ty, pos, af, g⟩ ρ w w') (k : RL P N ops Q rest ρ w') : RL P N ops Q (⟨none, op, ty, pos, af, g⟩ :: rest) ρ w := by
  intro a ha
  unfold wpList
  rw [ha.wanted, hw, if_pos rfl]
  refine .inl ?_
  unfold Oper.wp
  rw [ha.eval, show (execOp (ev ρ) _).run P w = _ from h]
  exact k _ ha
theorem RL_off (hw : wantE N ops ρ ⟨some d, op, ty, pos, af, g⟩ = false) (hd : Nat.blt d N = true) (k : RL P N ops Q rest (upd ρ d undef) w) : RL P N ops Q (⟨some d, op, ty, pos, af, g⟩ :: rest) ρ w := by
  intro a ha
  unfold wpList
  rw [ha.wanted, hw, if_neg (by simp)]
  exact k _ (ha.put (yZ hd) _)

theorem zV {f : FuncId} {args : Array Value} {R : Ending → World → Prop} (hw : wantE N ops ρ ⟨some d, op, ty, pos, af, g⟩ = true) (hd : Nat.blt d N = true) (h : DoC P ⟨some d, op, ty, pos, af, g⟩ ρ w f args)
    (hc : Calls P f args w R) (k : ∀ e w', R e w' → ∃ v, e = .returned v ∧ RL P N ops Q rest (upd ρ d v) w') : RL P N ops Q (⟨some d, op, ty, pos, af, g⟩ :: rest) ρ w := by
  intro a ha
  unfold wpList
  rw [ha.wanted, hw, if_pos rfl]
  refine .inl ?_
  unfold Oper.wp
  rw [ha.eval, show (execOp (ev ρ) _).run P w = _ from h]
  refine hc.mono fun e w'' hR => ?_
  obtain ⟨v, rfl, hk⟩ := k e w'' hR
  exact hk _ (ha.put (yZ hd) v)
theorem yK {b : Bool} {x : Operand} (hw : wantE N ops ρ ⟨some d, .move x, ty, pos, af, g⟩ = true) (hd : Nat.blt d N = true) (hx : ev ρ x = .bool b)
    (ht : b = true → RL P N ops Q rest (upd ρ d (.bool true)) w) (hf : b = false → RL P N ops Q rest (upd ρ d (.bool false)) w) : RL P N ops Q (⟨some d, .move x, ty, pos, af, g⟩ :: rest) ρ w := by
  refine RL_do (v := .bool b) (w' := w) hw hd (by unfold Do; simp [execOp, hx]) ?_
  cases b
  · exact hf rfl
  · exact ht rfl

/-! ### A region that draws its order, of operations that yield the same in every world that keeps what was there -/
def Sees (w w' : World) : Prop := Below w.heap.size w w'

variable {K : Env → Prop}
end rl

/-! ### A loop: the slots that its body may write (W), what the ones that matter hold, and what holds of the world -/
def getl : List (Nat × Value) → Nat → Option Value
  | [], _ => none
  | (j, v) :: l, i => if i = j then some v else getl l i
def Sl (ρ : Env) (l : List (Nat × Value)) : Prop := ∀ i v, getl l i = some v → ρ i = v
def over (ρ₀ ρ : Env) (W : List Nat) (l : List (Nat × Value)) : Env := fun i =>
  match getl l i with
  | some v => v
  | none => if W.contains i then ρ i else ρ₀ i
def Fr (W : List Nat) (ρ₀ ρ : Env) : Prop := ∀ i, W.contains i = false → ρ i = ρ₀ i

theorem zL {ρ : Env} : Sl ρ [] := fun i v h => by simp [getl] at h
theorem zK {ρ : Env} {j : Nat} {v : Value} {l : List (Nat × Value)} (h : ρ j = v) (hl : Sl ρ l) : Sl ρ ((j, v) :: l) := by
  intro i u hu
  unfold getl at hu
  split at hu
  · rename_i hi; subst hi; cases hu; exact h
  · exact hl i u hu
theorem over_eq {ρ₀ ρ : Env} {W : List Nat} {l : List (Nat × Value)} (hf : Fr W ρ₀ ρ) (hs : Sl ρ l) : over ρ₀ ρ W l = ρ := by
  funext i
  unfold over
  split
  · rename_i v hv; exact (hs i v hv).symm
  · split
    · rfl
    · rename_i h; exact (hf i (by simpa using h)).symm
theorem Fr_refl {W : List Nat} {ρ : Env} : Fr W ρ ρ := fun _ _ => rfl
theorem Fr_upd {W : List Nat} {ρ₀ ρ : Env} {d : Nat} {v : Value} (hd : W.contains d = true) (h : Fr W ρ₀ ρ) : Fr W ρ₀ (upd ρ d v) := by
  intro i hi
  unfold upd
  rw [if_neg (fun e => by subst e; rw [hd] at hi; cases hi)]
  exact h i hi
theorem getl_none {W : List Nat} : ∀ {l : List (Nat × Value)} {i : Nat}, (l.all fun p => W.contains p.1) = true → W.contains i = false → getl l i = none
  | [], _, _, _ => rfl
  | (j, v) :: l, i, hl, hi => by
    simp only [List.all_cons, Bool.and_eq_true] at hl
    unfold getl
    rw [if_neg (fun e => by subst e; rw [hl.1] at hi; cases hi)]
    exact getl_none hl.2 hi
theorem Fr_over {W W' : List Nat} {ρ₀ ρ ρ₁ : Env} {l : List (Nat × Value)} (hk : (l.all fun p => W.contains p.1) = true) (hw : (W'.all fun i => W.contains i) = true) (h : Fr W ρ₀ ρ) : Fr W ρ₀ (over ρ ρ₁ W' l) := by
  intro i hi
  unfold over
  rw [getl_none hk hi]
  simp only
  have hc : W'.contains i = false := by
    cases h' : W'.contains i with
    | false => rfl
    | true =>
      have hm : i ∈ W' := by simpa using h'
      have := List.all_eq_true.1 hw i hm
      rw [this] at hi; cases hi
  rw [hc]
  exact h i hi

section loops
variable {P : Program} {N : Nat} {Q : Exit → Env → World → Prop} {ρ : Env} {w : World}
theorem xK {c : Code} {G : Type} (W : List Nat) (S : G → List (Nat × Value)) (I : G → World → Prop) (μ : G → Nat) (g : G) (hs : Sl ρ (S g)) (hI : I g w)
    (round : ∀ g ρ₁ w, I g w → WP P N c (thenQ (fun ρ' w' => Fr W ρ ρ' ∧ ∃ g', Sl ρ' (S g') ∧ I g' w' ∧ μ g' < μ g) Q) (over ρ ρ₁ W (S g)) w) : WP P N (.loop c) Q ρ w := by
  refine WP_loopg (fun g ρ' w => Fr W ρ ρ' ∧ Sl ρ' (S g) ∧ I g w) μ g ⟨Fr_refl, hs, hI⟩ ?_
  rintro g ρ₁ w ⟨hf, hs, hI⟩
  have h := round g ρ₁ w hI
  rw [over_eq hf hs] at h
  refine h.mono ?_
  intro e ρ' w' hq
  cases e <;> first | (obtain ⟨h1, g', h2, h3, h4⟩ := hq; exact ⟨g', ⟨h1, h2, h3⟩, h4⟩) | exact hq
theorem yL {x y : Code} {G : Type} (W : List Nat) (S : G → List (Nat × Value)) (I : G → World → Prop)
    (h : WP P N x (thenQ (fun ρ' w' => Fr W ρ ρ' ∧ ∃ g, Sl ρ' (S g) ∧ I g w') Q) ρ w) (k : ∀ g ρ₁ w, I g w → WP P N y Q (over ρ ρ₁ W (S g)) w) : WP P N (.seq x y) Q ρ w := by
  refine WP_seq h ?_
  rintro ρ' w' ⟨h1, g, h2, h3⟩
  have := k g ρ' w' h3
  rwa [over_eq h1 h2] at this
end loops
end Go.OB
