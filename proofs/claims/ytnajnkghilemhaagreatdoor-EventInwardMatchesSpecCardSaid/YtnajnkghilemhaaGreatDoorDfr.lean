/- Functions that defer a call: walks with a list of what is deferred. -/
import Derived.Test.YtnajnkghilemhaaGreatDoorLfR
import Derived.Defers
import Derived.Recover
namespace Go.Lf
open Go.RowKit Go.OB
structure FitsD (N : Nat) (a : Act) (ρ : Env) (ds : List Deferred) : Prop where
  size : a.tmps.size = N
  dfr : a.defers = ds
  get : ∀ i, a.tmps.getD i undef = ρ i
theorem FitsD.fits {N : Nat} {a : Act} {ρ : Env} {ds : List Deferred} (h : FitsD N a ρ ds) : Fits N { a with defers := [] } ρ := ⟨h.size, rfl, h.get⟩
theorem FitsD.eval {N : Nat} {a : Act} {ρ : Env} {ds : List Deferred} (h : FitsD N a ρ ds) : a.eval = ev ρ := by
  have := h.fits.eval
  rw [← this]; funext x; cases x <;> rfl
theorem FitsD.wanted {N : Nat} {a : Act} {ρ : Env} {ds : List Deferred} (h : FitsD N a ρ ds) (ops : Array Oper) (o : Oper) : Region.wanted o (yielded ops a.tmps) = wantE N ops ρ o := h.fits.wanted ops o
theorem FitsD.put {N : Nat} {a : Act} {ρ : Env} {ds : List Deferred} (h : FitsD N a ρ ds) {d : Option Tmp} (hd : dstOk N d = true) (v : Value) : FitsD N (a.put d v) (updo ρ d v) ds := by
  have q := h.fits.put hd v
  cases d with
  | none => exact h
  | some d => exact ⟨q.size, h.dfr, q.get⟩
def liftD (N : Nat) (Q : Exit → List Deferred → Env → World → Prop) : Exit → Act → World → Prop := fun e a w => ∃ ρ ds, FitsD N a ρ ds ∧ Q e ds ρ w
def WPD (P : Program) (N : Nat) (ds : List Deferred) (c : Code) (Q : Exit → List Deferred → Env → World → Prop) (ρ : Env) (w : World) : Prop := ∀ a, FitsD N a ρ ds → c.wp P (liftD N Q) a w
def RLD (P : Program) (N : Nat) (ops : Array Oper) (ds : List Deferred) (Q : Exit → List Deferred → Env → World → Prop) (l : List Oper) (ρ : Env) (w : World) : Prop := ∀ a, FitsD N a ρ ds → wpList P ops (liftD N Q) l a w
def thenD (K : List Deferred → Env → World → Prop) (Q : Exit → List Deferred → Env → World → Prop) : Exit → List Deferred → Env → World → Prop
  | .normal, ds, ρ, w => K ds ρ w
  | e, ds, ρ, w => Q e ds ρ w
section
variable {P : Program} {N : Nat} {Q : Exit → List Deferred → Env → World → Prop} {ρ : Env} {w w' : World} {ds : List Deferred} {ops : Array Oper} {o : Oper} {rest : List Oper} {v : Value} {d : Nat} {op : Op} {ty : TypeId} {pos : String} {af : Array Edge} {g : Option (Nat × Bool)}
theorem WPD_seq {x y : Code} (h : WPD P N ds x (thenD (fun ds' ρ' w' => WPD P N ds' y Q ρ' w') Q) ρ w) : WPD P N ds (.seq x y) Q ρ w := by
  intro a ha
  refine wp_seq (wp_mono (h a ha) ?_)
  rintro e a' w' ⟨ρ', ds', hf, hq⟩
  cases e <;> first | exact hq a' hf | exact ⟨ρ', ds', hf, hq⟩
theorem WPD_ret (h : Q .ret ds ρ w) : WPD P N ds .ret Q ρ w := fun _ ha => wp_ret ⟨ρ, ds, ha, h⟩
theorem WPD_region {id : Nat} {l : List Oper} (h : RLD P N l.toArray ds Q l ρ w) : WPD P N ds (.region id l.toArray false) Q ρ w := fun a ha => wp_region_lit (h a ha)
theorem RLD_nil (h : Q .normal ds ρ w) : RLD P N ops ds Q [] ρ w := fun _ ha => wpList_nil ⟨ρ, ds, ha, h⟩
theorem RLD_do (hw : wantE N ops ρ ⟨some d, op, ty, pos, af, g⟩ = true) (hd : Nat.blt d N = true) (h : Do P ⟨some d, op, ty, pos, af, g⟩ ρ w v w') (k : RLD P N ops ds Q rest (upd ρ d v) w') : RLD P N ops ds Q (⟨some d, op, ty, pos, af, g⟩ :: rest) ρ w := by
  intro a ha
  unfold wpList
  rw [ha.wanted, hw, if_pos rfl]
  refine .inl ?_
  unfold Oper.wp
  rw [ha.eval, show (execOp (ev ρ) _).run P w = _ from h]
  exact k _ (ha.put (yZ hd) v)
theorem RLD_ex {R : Value → World → Prop} (hw : wantE N ops ρ ⟨some d, op, ty, pos, af, g⟩ = true) (hd : Nat.blt d N = true) (h : ∃ v w', Do P ⟨some d, op, ty, pos, af, g⟩ ρ w v w' ∧ R v w')
    (k : ∀ v w', R v w' → RLD P N ops ds Q rest (upd ρ d v) w') : RLD P N ops ds Q (⟨some d, op, ty, pos, af, g⟩ :: rest) ρ w := by
  obtain ⟨v, w', h1, h2⟩ := h; exact RLD_do hw hd h1 (k v w' h2)
theorem RLD_exU {R : World → Prop} (hw : wantE N ops ρ ⟨none, op, ty, pos, af, g⟩ = true) (h : ∃ w', DoU P ⟨none, op, ty, pos, af, g⟩ ρ w w' ∧ R w') (k : ∀ w', R w' → RLD P N ops ds Q rest ρ w') : RLD P N ops ds Q (⟨none, op, ty, pos, af, g⟩ :: rest) ρ w := by
  obtain ⟨w', h1, h2⟩ := h
  intro a ha
  unfold wpList
  rw [ha.wanted, hw, if_pos rfl]
  refine .inl ?_
  unfold Oper.wp
  rw [ha.eval, show (execOp (ev ρ) _).run P w = _ from h1]
  exact k _ h2 _ ha
theorem RLD_defer {x : Deferred} (hw : wantE N ops ρ ⟨none, op, ty, pos, af, g⟩ = true) (h : (execOp (ev ρ) ⟨none, op, ty, pos, af, g⟩).run P w = .ok (.defer x) w) (k : RLD P N ops (x :: ds) Q rest ρ w) : RLD P N ops ds Q (⟨none, op, ty, pos, af, g⟩ :: rest) ρ w := by
  intro a ha
  unfold wpList
  rw [ha.wanted, hw, if_pos rfl]
  refine .inl ?_
  unfold Oper.wp
  rw [ha.eval, h]
  exact k _ ⟨ha.size, congrArg (x :: ·) ha.dfr, ha.get⟩
theorem RLD_call {f : FuncId} {args : Array Value} {R : Ending → World → Prop} (hw : wantE N ops ρ ⟨some d, op, ty, pos, af, g⟩ = true) (hd : Nat.blt d N = true) (h : DoC P ⟨some d, op, ty, pos, af, g⟩ ρ w f args)
    (hc : Calls P f args w R) (k : ∀ e w', R e w' → ∃ v, e = .returned v ∧ RLD P N ops ds Q rest (upd ρ d v) w') : RLD P N ops ds Q (⟨some d, op, ty, pos, af, g⟩ :: rest) ρ w := by
  intro a ha
  unfold wpList
  rw [ha.wanted, hw, if_pos rfl]
  refine .inl ?_
  unfold Oper.wp
  rw [ha.eval, show (execOp (ev ρ) _).run P w = _ from h]
  refine hc.mono fun e w'' hR => ?_
  obtain ⟨v, rfl, hk⟩ := k e w'' hR
  exact hk _ (ha.put (yZ hd) v)
def postD (P : Program) (fn : Func) (R : Ending → World → Prop) : Exit → List Deferred → Env → World → Prop
  | .normal, ds, ρ, w | .ret, ds, ρ, w => ∀ tmps : Array Value, (∀ i, tmps.getD i undef = ρ i) → Leaves P fn tmps R ds .returning w
  | .panic chain, ds, ρ, w => ∀ tmps : Array Value, (∀ i, tmps.getD i undef = ρ i) → Leaves P fn tmps R ds (.panicking chain) w
  | _, _, _, _ => False
theorem calls_of_WPD {f : FuncId} {fn : Func} {c : Code} {args : List Value} {R : Ending → World → Prop} (N : Nat)
    (hf : P.funcs[f]? = some fn) (hb : fn.body = some c) (hN : fn.ntmps = N) (hl : Nat.ble args.length N = true)
    (h : WPD P N [] c (postD P fn R) (env0 args) w) : Calls P f args.toArray w R := by
  refine calls_of_wp_defers hf hb ?_
  have hl := Nat.le_of_ble_eq_true hl
  subst hN
  have hfit : FitsD fn.ntmps { tmps := args.toArray ++ Array.replicate (fn.ntmps - args.toArray.size) undef, defers := [] } (env0 args) [] := by
    refine ⟨by simp; omega, rfl, fun i => ?_⟩
    rw [← env0_get]
    simp only [Array.getD_eq_getD_getElem?, Array.getElem?_append, List.getD_eq_getElem?_getD, List.size_toArray, Array.getElem?_replicate, List.getElem?_toArray]
    split
    · rfl
    · rename_i hi
      rw [List.getElem?_eq_none (by omega)]
      split <;> rfl
  refine wp_mono (h _ hfit) ?_
  rintro e a w ⟨ρ, ds, hf, hq⟩
  cases e <;> simp only [postD] at hq <;> simp only [bodyPostD]
  case normal => rw [hf.dfr]; exact hq _ hf.get
  case ret => rw [hf.dfr]; exact hq _ hf.get
  case panic ch => rw [hf.dfr]; exact hq _ hf.get
theorem leaves_res {fn : Func} {tmps : Array Value} {R : Ending → World → Prop} {rs : Array ResultVar} (hr : fn.results = rs) (ht : ∀ i, tmps.getD i undef = ρ i) (h : postE P rs R .ret ρ w) : Leaves P fn tmps R [] .returning w := by
  subst hr
  obtain ⟨v, h1, h2⟩ := h
  refine ⟨v, ?_, h2⟩
  rw [← h1]
  congr 1
  unfold results resultsE
  simp only [ht]
  rfl
end
section
variable {P : Program} {ρ : Env} {w : World} {d : Option Tmp} {x : Operand} {ty : TypeId} {pos : String} {af : Array Edge} {g : Option (Nat × Bool)}
theorem DoC_bnd {f : FuncId} {args : Array Operand} {at_ : Array TypeId} {us first : List Value} (hf : Go.OB.Enters P f) (hx : ev ρ x = .func (.func f) first.toArray #[]) (ha : args.toList.map (ev ρ) = us) :
    DoC P ⟨d, .call { callee := .value x, args := args, argTypes := at_ }, ty, pos, af, g⟩ ρ w f (first ++ us).toArray := by
  obtain ⟨fn, h1, h2, h3⟩ := hf
  have h2' : ¬ fn.body = none := by cases hb : fn.body <;> simp_all
  have h3' : ¬ fn.name = "runtime.NumGoroutine" := by simpa using h3
  have h4 : ∀ as, (callFunc f as).run P w = .ok (.enter f as) w := by
    intro as; simp [callFunc, Sem.run, h1, h2', h3', program]
  unfold DoC
  have e : args.map (ev ρ) = us.toArray := by rw [← ha]; apply Array.ext'; simp
  simp only [execOp, resolve, hx, Deferred.ofValue]
  rw [e]
  simp [invoke, h4]
theorem run_defer {f : FuncId} {args : Array Operand} {at_ : Array TypeId} {us cap : List Value} (hx : ev ρ x = .func (.func f) #[] cap.toArray) (ha : args.toList.map (ev ρ) = us) :
    (execOp (ev ρ) ⟨d, .defer { callee := .value x, args := args, argTypes := at_ }, ty, pos, af, g⟩).run P w = .ok (.defer { target := .fn (.func f) cap.toArray, args := us.toArray }) w := by
  have e : args.map (ev ρ) = us.toArray := by rw [← ha]; apply Array.ext'; simp
  simp only [execOp, resolve, hx, Deferred.ofValue]
  rw [e]
  simp
end
section
variable {P : Program} {ρ : Env} {w : World} {R : Ending → World → Prop} {rs : Array ResultVar} {t1 t2 t3 t4 t5 t6 : Tmp} {v1 v2 v3 v4 v5 v6 : Value}
theorem post6 (hr : rs = #[.tmp t1, .tmp t2, .tmp t3, .tmp t4, .tmp t5, .tmp t6]) (h1 : ρ t1 = v1) (h2 : ρ t2 = v2) (h3 : ρ t3 = v3) (h4 : ρ t4 = v4) (h5 : ρ t5 = v5) (h6 : ρ t6 = v6) (h : R (.returned (.tuple #[v1, v2, v3, v4, v5, v6])) w) : postE P rs R .ret ρ w := by
  subst hr h1 h2 h3 h4 h5 h6; exact ⟨_, by simp [resultsE], h⟩
end
end Go.Lf
