/- Lifting: more rules for operations. -/
import Derived.Test.YtbjhondbheijiaaGreatDoorLf2
namespace Go.Lf
open Go.RowKit Go.OB

section
variable {P : Program} {N : Nat} {ops : Array Oper} {κ : List Kd} {K : Env → World → Prop} {Q : Exit → Env → World → Prop} {k : Nat} {rest : List Oper} {ρ : Env} {w : World} {v : Value} {d : Nat} {op : Op} {ty : TypeId} {pos : String} {af : Array Edge} {g : Option (Nat × Bool)}
/-- A value that is told by what holds of it. -/
theorem RL_exP {R : Value → Prop} (hw : wantE N ops ρ ⟨some d, op, ty, pos, af, g⟩ = true) (hd : Nat.blt d N = true) (h : ∃ v, (∀ w', Do P ⟨some d, op, ty, pos, af, g⟩ ρ w' v w') ∧ R v) (n : ∀ v, R v → RL P N ops Q rest (upd ρ d v) w) :
    RL P N ops Q (⟨some d, op, ty, pos, af, g⟩ :: rest) ρ w := by
  obtain ⟨v, h1, h2⟩ := h
  exact zA hw hd (h1 w) (n v h2)
end

section
variable {P : Program} {ρ : Env} {w w0 w1 : World} {d : Option Tmp} {x y z : Operand} {t u ty e : TypeId} {pos : String} {af : Array Edge} {g : Option (Nat × Bool)}
variable {v : Value} {b o i n c s : Nat} {k k' : IntKind} {cs xs vs : List Value} {T : TypeId} {O S : List Nat} {l : List Th} {α : Type} {r : Rp α} {xl yl zl : List α} {a : α} {j q : Int} {F : Nat → Prop}

theorem DoC_clo {f : FuncId} {args : Array Operand} {at_ : Array TypeId} {us cap : List Value} (hf : Enters P f) (hx : ev ρ x = .func (.func f) #[] cap.toArray) (ha : args.toList.map (ev ρ) = us) :
    DoC P ⟨d, .call { callee := .value x, args := args, argTypes := at_ }, ty, pos, af, g⟩ ρ w f (us ++ cap).toArray := by
  obtain ⟨fn, h1, h2, h3⟩ := hf
  have h2' : ¬ fn.body = none := by cases hb : fn.body <;> simp_all
  have h3' : ¬ fn.name = "runtime.NumGoroutine" := by simpa using h3
  have h4 : ∀ as, (callFunc f as).run P w = .ok (.enter f as) w := by
    intro as; simp [callFunc, Sem.run, h1, h2', h3', program]
  unfold DoC
  have e : args.map (ev ρ) = us.toArray := by rw [← ha]; apply Array.ext'; simp
  simp only [execOp, resolve, hx, Deferred.ofValue]
  rw [e]
  simp [invoke, h4]
theorem Do_makeFunc {f : FuncId} {cap : Array Operand} {us : List Value} (hc : cap.toList.map (ev ρ) = us) : Do P ⟨d, .makeFunc (.func f) #[] cap, ty, pos, af, g⟩ ρ w (.func (.func f) #[] us.toArray) w := by
  have e : cap.map (ev ρ) = us.toArray := by rw [← hc]; apply Array.ext'; simp
  unfold Do
  simp [execOp, Instr.makeFunc, e]
/-! ### Texts -/
theorem Do_eqls {s1 s2 : Str} (hx : ev ρ x = .string (bs s1)) (hy : ev ρ y = .string (bs s2)) : Do P ⟨d, .binOp .eql t x y u, ty, pos, af, g⟩ ρ w (.bool (decide (s1 = s2))) w :=
  OB.zT (Do_eqlstr hx hy) (congrArg Value.bool (decide_eq_decide.2 bs_inj))
theorem Do_neqs {s1 s2 : Str} (hx : ev ρ x = .string (bs s1)) (hy : ev ρ y = .string (bs s2)) : Do P ⟨d, .binOp .neq t x y u, ty, pos, af, g⟩ ρ w (.bool (decide (s1 ≠ s2))) w :=
  OB.zT (Do_neqstr hx hy) (congrArg Value.bool (decide_eq_decide.2 (not_congr bs_inj)))
theorem Do_slen {s1 : Str} (hu : P.underlying t = some .string) (hx : ev ρ x = .string (bs s1)) :
    Do P ⟨d, .call { callee := .builtin .len, args := #[x], argTypes := #[t] }, ty, pos, af, g⟩ ρ w (.int .i64 (s1.length : Nat)) w :=
  OB.zT (Do_lens hu hx) (by rw [bs_size])
def byte' (s : Str) (i : Int) : Option Int := (at' s i).map fun c => (c.toNat : Int)
theorem Do_sidx {s1 : Str} {c : Int} (hu : P.underlying t = some .string) (hx : ev ρ x = .string (bs s1)) (hy : ev ρ y = .int k q) (h : byte' s1 q = some c) : Do P ⟨d, .index t x y, ty, pos, af, g⟩ ρ w (.int .u8 c) w := by
  unfold byte' at h
  cases ha : at' s1 q with
  | none => rw [ha] at h; cases h
  | some c' =>
    rw [ha] at h
    obtain rfl : (c'.toNat : Int) = c := by simpa using h
    obtain ⟨h0, h1, h2⟩ := yD ha
    have e : (bs s1)[q.toNat]? = some c' := by
      obtain ⟨h3, h4⟩ := List.getElem?_eq_some_iff.1 h2
      have h5 : q.toNat < (bs s1).size := by rw [bs_size]; exact h3
      rw [getElem?_pos (bs s1) q.toNat h5]
      simp [bs, ByteArray.getElem_eq_getElem_data, h4]
    unfold Do
    simp [execOp, Instr.index, hx, hy, asIntOf, run_underlying hu, h0, e]
/-! ### Nil or not -/
theorem Do_eqlnilp {pv : Option Addr} (hu : P.underlying t = some (.pointer e)) (hx : ev ρ x = .pointer pv) (hy : ev ρ y = .pointer none) : Do P ⟨d, .binOp .eql t x y u, ty, pos, af, g⟩ ρ w (.bool pv.isNone) w := by
  have hp : P.underlying t = some (.pointer (P.pointee t)) := by rw [hu]; simp [Program.pointee, hu]
  unfold Do
  simp only [execOp, hx, hy, eqGuard]
  have := run_eql_pointer_nil w t pv hp
  simp [this]
/-- An address that may be nil, and what lies there. -/
def PtF (r : Rp α) (F : Nat → Prop) (w : World) (pv : Option Addr) : Option α → Prop
  | none => pv = none
  | some x => ∃ b o cs, pv = some ⟨b, o, none⟩ ∧ F b ∧ b < w.heap.size ∧ r.rd F w cs x ∧ Cells w ⟨b, o, none⟩ cs
theorem PtF.mono {F F' : Nat → Prop} {w w' : World} {pv : Option Addr} {o : Option α} (hs : Same F F' w w') (h : PtF r F w pv o) : PtF r F' w' pv o := by
  cases o with
  | none => exact h
  | some x =>
    obtain ⟨b, o, cs, h1, h2, h3, h4, h5⟩ := h
    obtain ⟨q1, q2, q3⟩ := Cells.same hs h2 h3 h5
    exact ⟨b, o, cs, h1, q1, q2, r.mono hs h4, q3⟩
def Fz.pt (r : Rp α) (pv : Option Addr) (o : Option α) : Fz := ⟨fun F w => PtF r F w pv o, PtF.mono⟩
theorem PtF.isNone {pv : Option Addr} {o : Option α} (h : PtF r F w pv o) : pv.isNone = o.isNone := by
  cases o with
  | none => obtain rfl : pv = none := h; rfl
  | some x => obtain ⟨b, o, cs, rfl, _⟩ := h; rfl
theorem PtF.isSome {pv : Option Addr} {o : Option α} (h : PtF r F w pv o) : pv.isSome = o.isSome := by
  cases o with
  | none => obtain rfl : pv = none := h; rfl
  | some x => obtain ⟨b, o, cs, rfl, _⟩ := h; rfl
/-! ### Parts of slices that are read -/
theorem slf_part (h : SlF r F w v xl) {lo hi : Int} (hs : sub' xl lo hi = some yl) : ∃ a c, v = .slice a xl.length c ∧ 0 ≤ lo ∧ lo ≤ hi ∧ hi ≤ xl.length ∧ xl.length ≤ c ∧ SlF r F w (sliced a lo.toNat hi.toNat c r.sz) yl := by
  obtain ⟨h0, h1, h2, rfl⟩ := sub_some hs
  obtain ⟨xs, r1, r2, r3⟩ := h
  obtain ⟨hl, r2⟩ := r2
  rcases r2 with ⟨rfl, hn⟩ | ⟨a, cap, rfl, h3, h4, h5, hc⟩
  · have : xl = [] := List.eq_nil_of_length_eq_zero hn
    subst this
    simp at h2
    obtain rfl : hi = 0 := by omega
    obtain rfl : lo = 0 := by omega
    exact ⟨none, 0, rfl, by omega, by omega, by simp, by simp, SlF.nil⟩
  · refine ⟨some a, cap, rfl, h0, h1, h2, h3, (xs.drop (lo.toNat * r.sz)).take ((hi - lo).toNat * r.sz), rows_take _ (rows_drop _ r1), ⟨?_, ?_⟩, ?_⟩
    · exact rows_len (rows_take _ (rows_drop _ r1))
    · unfold sliced
      have hlen : ((xl.drop lo.toNat).take (hi - lo).toNat).length = hi.toNat - lo.toNat := by simp; omega
      rw [hlen]
      refine .inr ?_
      by_cases hq : cap = lo.toNat
      · rw [if_pos hq]
        refine ⟨a, cap - lo.toNat, rfl, by omega, by omega, fun h => by omega, ?_⟩
        have : (hi - lo).toNat = 0 := by omega
        rw [this]; intro i v hv; simp at hv
      · rw [if_neg hq]
        refine ⟨a.add (lo.toNat * r.sz), cap - lo.toNat, rfl, by omega, by omega, fun h => ?_, ?_⟩
        · have := h5 (by omega)
          unfold Addr.add; split
          · exact this
          · rfl
        · intro i v hv
          have e : (a.add (lo.toNat * r.sz)).add i = a.add (lo.toNat * r.sz + i) := by
            unfold Addr.add
            by_cases h6 : lo.toNat * r.sz = 0
            · rw [if_pos h6, h6, Nat.zero_add]
            · rw [if_neg h6]
              by_cases h7 : i = 0
              · subst h7; rw [if_pos rfl, if_neg (by omega)]; rfl
              · rw [if_neg h7, if_neg (by omega)]; simp [Nat.add_assoc]
          rw [e]
          refine hc _ _ ?_
          rw [List.getElem?_take] at hv
          split at hv
          · rwa [List.getElem?_drop] at hv
          · cases hv
    · intro hn b hb
      have hn' : 0 < xl.length := by simp at hn; omega
      have : b = a.block := by
        unfold sliced at hb
        simp only [sblk] at hb
        split at hb
        · rename_i a2 l2 c2 e2
          simp at e2
          obtain ⟨e2, _⟩ := e2
          split at e2
          · cases e2; simpa using hb.symm
          · cases e2; simpa [Addr.add_block] using hb.symm
        · cases hb
      exact r3 hn' b (by rw [this]; rfl)
theorem Lx_slice_h {kh : IntKind} {hi : Int} {hi' : Operand} (hu : P.underlying t = some (.slice e)) (hz : Sz P e r.sz) (h : SlF r F w v xl) (hx : ev ρ x = v) (hh : ev ρ hi' = .int kh hi) (hs : sub' xl 0 hi = some yl) :
    ∃ v', (∀ w', Do P ⟨d, .slice t x none (some hi') none, ty, pos, af, g⟩ ρ w' v' w') ∧ SlF r F w v' yl := by
  obtain ⟨a, c, e, h0, h1, h2, h3, h4⟩ := slf_part h hs
  exact ⟨_, fun w' => Do_slice_h hu hz (hx.trans e) hh h1 (by omega), h4⟩
/-! ### Numbers -/
theorem Do_max {c : Int} (hx : ev ρ x = .int k j) (hy : ev ρ y = .int k q) (h : max j q = c) : Do P ⟨d, .call { callee := .builtin .max, args := #[x, y], argTypes := #[t, u] }, ty, pos, af, g⟩ ρ w (.int k c) w := by
  subst h
  have e : max j q = if j < q then q else j := by split <;> omega
  unfold Do; simp [execOp, resolve, invoke, builtin, Builtin.max_, Builtin.max2, hx, hy, e]
theorem Do_quo' {c : Int} (hx : ev ρ x = .int k j) (hy : ev ρ y = .int k q) (h : quo' k j q = some c) : Do P ⟨d, .binOp .quo t x y u, ty, pos, af, g⟩ ρ w (.int k c) w := by
  obtain ⟨h1, h2⟩ := quo_some h; exact Do_tquo hx hy h1 h2
theorem Do_rem' {c : Int} (hx : ev ρ x = .int k j) (hy : ev ρ y = .int k q) (h : rem' j q = some c) : Do P ⟨d, .binOp .rem t x y u, ty, pos, af, g⟩ ρ w (.int k c) w := by
  obtain ⟨h1, h2⟩ := rem_some h; exact OB.zT (Do_trem hx hy h1) (by rw [h2])
theorem Do_shl' {c : Int} (hx : ev ρ x = .int k j) (hy : ev ρ y = .int k' q) (h : shl' k j q = some c) : Do P ⟨d, .binOp .shl t x y u, ty, pos, af, g⟩ ρ w (.int k c) w := by
  obtain ⟨h1, h2, h3⟩ := shl_some h; exact Do_shl hx hy h1 h2 rfl h3
theorem Do_shr' {c : Int} (hx : ev ρ x = .int k j) (hy : ev ρ y = .int k' q) (h : shr' k j q = some c) : Do P ⟨d, .binOp .shr t x y u, ty, pos, af, g⟩ ρ w (.int k c) w := by
  obtain ⟨h1, h2, h3⟩ := shr_some h; exact OB.zT (Do_shr hx hy h1 h2 rfl) (by rw [h3])
theorem rep_cells {z : Value} {n : Nat} : madeCells #[z] (n * 1) = (List.replicate n z).toArray := by
  unfold madeCells
  apply Array.ext'
  apply List.ext_getElem
  · simp
  · intro i h1 h2; simp [Nat.mod_one]
theorem rows_rep1 {z : Value} {x : α} (h : ∀ F w, r.rd F w [z] x) (F : Nat → Prop) (w : World) : ∀ n, rows r F w (List.replicate n z) (List.replicate n x)
  | 0 => rfl
  | n + 1 => ⟨[z], List.replicate n z, rfl, h F w, rows_rep1 h F w n⟩
/-- A call that keeps what was there and whose value is told. -/
theorem call_read {f : FuncId} {args : Array Value} {w : World} {O : List Nat} {items : List Th} (h : Calls P f args w fun e w' => e = .returned v ∧ Hd O w w' [] items) : Calls P f args w fun e w' => e = .returned v ∧ Below w.heap.size w w' :=
  h.mono fun _ _ ⟨h1, h2⟩ => ⟨h1, h2.only.below⟩
/-- A body that a loop is. -/
theorem yY {γ β : Type} {B body : (γ → Option β) → γ → Option β} {k : γ → Option β} {g : γ} {r : β} (e : B = body) (h : B k g = some r) : body k g = some r := by subst e; exact h
theorem xZ {γ β : Type} {K body : γ → Option β} {g : γ} {r : β} (e : K = body) (h : K g = some r) : body g = some r := by subst e; exact h
end
end Go.Lf
