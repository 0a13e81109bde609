/- Rules for single operations: slices, calls, structs. -/
import Derived.Test.YtnajnkghilemhaaGreatDoorOps
namespace Go.OB
open Go.RowKit

def SlR (w : World) (v : Value) (s n : Nat) (xs : List Value) : Prop :=
  xs.length = n * s ∧ ((v = .slice none 0 0 ∧ n = 0) ∨ ∃ a cap, v = .slice (some a) n cap ∧ n ≤ cap ∧ cap ≤ maxLen ∧ (0 < n → a.spot = none) ∧ Cells w a xs)

def sblk : Value → Option Nat
  | .slice (some a) _ _ => some a.block
  | _ => none

theorem SlR.only {S : List Nat} {w w' : World} {v : Value} {s n : Nat} {xs : List Value} (h : SlR w v s n xs) (ho : Only S w w') (hb : 0 < n → ∀ b, sblk v = some b → b ∉ S) : SlR w' v s n xs := by
  obtain ⟨hl, h⟩ := h
  refine ⟨hl, ?_⟩
  rcases h with h | ⟨a, cap, rfl, h1, h2, h3, hc⟩
  · exact .inl h
  · refine .inr ⟨a, cap, rfl, h1, h2, h3, ?_⟩
    rcases Nat.eq_zero_or_pos n with h0 | h0
    · subst h0
      have : xs = [] := List.eq_nil_of_length_eq_zero (by simpa using hl)
      subst this
      intro i v hv
      simp at hv
    · exact hc.only ho (hb h0 a.block rfl)
theorem SlR.lt {w : World} {v : Value} {n : Nat} {xs : List Value} (h : SlR w v 1 n xs) (hn : 0 < n) : ∀ b, sblk v = some b → b < w.heap.size := by
  intro b hb
  obtain ⟨hl, h⟩ := h
  rcases h with ⟨rfl, _⟩ | ⟨a, cap, rfl, h1, h2, h3, hc⟩
  · cases hb
  · cases hb
    have hx : 0 < xs.length := by omega
    have := World.block_lt_of_cell? _ _ (hc 0 xs[0] (by simp [hx]))
    rwa [Addr.add_block] at this
theorem SlR.below {w w' : World} {v : Value} {s n : Nat} {xs : List Value} (h : SlR w v s n xs) (ho : Below w.heap.size w w') : SlR w' v s n xs := h.only (Only.of_below ho) (by simp)
theorem SlR.sees {w w' : World} {v : Value} {s n : Nat} {xs : List Value} (h : SlR w v s n xs) (ho : Sees w w') : SlR w' v s n xs := h.below ho
theorem SlR.nil {w : World} {s : Nat} : SlR w (.slice none 0 0) s 0 [] := ⟨by simp, .inl ⟨rfl, rfl⟩⟩
theorem SlR.shape {w : World} {v : Value} {s n : Nat} {xs : List Value} (h : SlR w v s n xs) : ∃ a c, v = .slice a n c := by
  rcases h.2 with ⟨h, h'⟩ | ⟨a, cap, h, _⟩
  · exact ⟨none, 0, by rw [h, h']⟩
  · exact ⟨_, _, h⟩
theorem SlR.some {w : World} {v : Value} {s n : Nat} {xs : List Value} (h : SlR w v s n xs) (hn : 0 < n) : ∃ b o cap, v = .slice (some ⟨b, o, none⟩) n cap ∧ n ≤ cap ∧ cap ≤ maxLen ∧ Cells w ⟨b, o, none⟩ xs := by
  rcases h.2 with ⟨_, h⟩ | ⟨⟨b, o, sp⟩, cap, h, h1, h2, h3, hc⟩
  · omega
  · have h3 : sp = none := h3 hn
    subst h3
    exact ⟨b, o, cap, h, h1, h2, hc⟩
theorem maxLen_eq : maxLen = 9223372036854775807 := by decide

def Enters (P : Program) (f : FuncId) : Prop := ∃ fn, P.funcs[f]? = some fn ∧ fn.body.isSome = true ∧ (fn.name == "runtime.NumGoroutine") = false

section ops
variable {P : Program} {N : Nat} {ops : Array Oper} {Q : Exit → Env → World → Prop} {rest : List Oper} {ρ : Env} {w : World} {d : Option Tmp} {x y z : Operand} {t u ty e : TypeId} {pos : String} {af : Array Edge} {g : Option (Nat × Bool)}
variable {v : Value} {b o i j m n c s : Nat} {k k' : IntKind} {q : Int} {cs xs : List Value} {T : TypeId}

theorem zU {f : FuncId} {args : Array Operand} {at_ : Array TypeId} {vs : List Value} (hf : Enters P f) (ha : args.toList.map (ev ρ) = vs) :
    DoC P ⟨d, .call { callee := .value (.func f), args := args, argTypes := at_ }, ty, pos, af, g⟩ ρ w f vs.toArray := by
  obtain ⟨fn, h1, h2, h3⟩ := hf
  have h2' : ¬ fn.body = none := by cases hb : fn.body <;> simp_all
  have h3' : ¬ fn.name = "runtime.NumGoroutine" := by simpa using h3
  have h4 : (callFunc f (args.map (ev ρ))).run P w = .ok (.enter f (args.map (ev ρ))) w := by
    simp [callFunc, Sem.run, h1, h2', h3', program]
  unfold DoC
  have e : args.map (ev ρ) = vs.toArray := by rw [← ha]; apply Array.ext'; simp
  simp only [execOp, resolve, ev, Deferred.ofValue]
  rw [e] at h4 ⊢
  simp [invoke, h4]

theorem Do_len (hu : P.underlying t = some (.slice e)) {a : Option Addr} (hx : ev ρ x = .slice a n c) :
    Do P ⟨d, .call { callee := .builtin .len, args := #[x], argTypes := #[t] }, ty, pos, af, g⟩ ρ w (.int .i64 n) w := by
  unfold Do; simp [execOp, resolve, invoke, builtin, Builtin.len_, hx, run_underlying hu, goInt]
theorem Do_lens (hu : P.underlying t = some .string) {str : ByteArray} (hx : ev ρ x = .string str) :
    Do P ⟨d, .call { callee := .builtin .len, args := #[x], argTypes := #[t] }, ty, pos, af, g⟩ ρ w (.int .i64 str.size) w := by
  unfold Do; simp [execOp, resolve, invoke, builtin, Builtin.len_, hx, run_underlying hu, goInt]

theorem Do_idx (hu : P.underlying t = some (.slice e)) (hs : Sz P e s) (hx : ev ρ x = .slice (some ⟨b, o, none⟩) n c) (hy : ev ρ y = .int k q) (h0 : 0 ≤ q) (h1 : q < n) (hj : q.toNat = j) (hm : o + j * s = m) :
    Do P ⟨d, .indexAddr t x y, ty, pos, af, g⟩ ρ w (.pointer (some ⟨b, m, none⟩)) w := by
  unfold Do
  simp [execOp, Instr.indexAt, hx, hy, asIntOf, run_underlying hu, h0, h1, run_sizeOf' hs, hj, Addr.add_none, hm]
theorem Do_idxa (hu : P.underlying t = some (.array n e)) (hs : Sz P e s) (hx : ev ρ x = .pointer (some ⟨b, o, none⟩)) (hy : ev ρ y = .int k q) (h0 : 0 ≤ q) (h1 : q < n) (hj : q.toNat = j) (hm : o + j * s = m) :
    Do P ⟨d, .indexAddr t x y, ty, pos, af, g⟩ ρ w (.pointer (some ⟨b, m, none⟩)) w := by
  unfold Do
  simp [execOp, Instr.indexAt, Instr.sureAddr, hx, hy, asIntOf, run_underlying hu, h0, h1, run_sizeOf' hs, hj, Addr.add_none, hm]
theorem Do_slice_h {kh : IntKind} {h : Int} {hi : Operand} {a : Option Addr} (hu : P.underlying t = some (.slice e)) (hs : Sz P e s) (hx : ev ρ x = .slice a n c) (hh : ev ρ hi = .int kh h)
    (h0 : 0 ≤ h) (h2 : h ≤ c) : Do P ⟨d, .slice t x none (some hi) none, ty, pos, af, g⟩ ρ w (sliced a 0 h.toNat c s) w := by
  have he : P.elem t = e := by simp [Program.elem, hu]
  have hu' : P.underlying t = some (.slice (P.elem t)) := by rw [he]; exact hu
  unfold Do
  simp [execOp, hx, hh, run_sliceAt_slice w t _ _ _ _ hu', run_slice_h w t a n c hu' kh h h0 h2, he, run_sizeOf' hs]
theorem Do_slicea (hu : P.underlying t = some (.array n e)) (hs : Sz P e s) (hx : ev ρ x = .pointer (some ⟨b, o, none⟩)) :
    Do P ⟨d, .slice t x none none none, ty, pos, af, g⟩ ρ w (.slice (some ⟨b, o, none⟩) n n) w := by
  have he : P.elem t = e := by simp [Program.elem, hu]
  have hn : P.arrayLen t = n := by simp [Program.arrayLen, hu]
  have hu' : P.underlying t = some (.array (P.arrayLen t) (P.elem t)) := by rw [he, hn]; exact hu
  unfold Do
  simp [execOp, hx, run_sliceAt_array_all w t ⟨b, o, none⟩ hu', he, hn, run_sizeOf' hs, slicedAt, Addr.add_none]
end ops

/-! ### What is returned -/
end Go.OB
