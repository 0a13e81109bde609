/- Rules for single operations: numbers, memory cells, calls. -/
import Derived.Test.YtbjhondbheijiaaGreatOb
namespace Go.OB
open Go.RowKit

theorem wrap_i64 {n : Int} (h : -9223372036854775808 ≤ n) (h' : n ≤ 9223372036854775807) : IntKind.i64.wrap n = n := by rw [IntKind.wrap_i64]; omega
theorem wrap_i32 {n : Int} (h : -2147483648 ≤ n) (h' : n ≤ 2147483647) : IntKind.i32.wrap n = n := by rw [IntKind.wrap_i32]; omega
theorem wrap_u8 {n : Int} (h : 0 ≤ n) (h' : n < 256) : IntKind.u8.wrap n = n := by rw [IntKind.wrap_u8]; omega
theorem wrap_u16 {n : Int} (h : 0 ≤ n) (h' : n < 65536) : IntKind.u16.wrap n = n := by rw [IntKind.wrap_u16]; omega
theorem wrap_u32 {n : Int} (h : 0 ≤ n) (h' : n < 4294967296) : IntKind.u32.wrap n = n := by rw [IntKind.wrap_u32]; omega
theorem wrap_u64 {n : Int} (h : 0 ≤ n) (h' : n < 18446744073709551616) : IntKind.u64.wrap n = n := by rw [IntKind.wrap_u64]; omega

section ops
variable {P : Program} {ρ : Env} {w : World} {d : Option Tmp} {x y z : Operand} {t u ty : TypeId} {pos : String} {af : Array Edge} {g : Option (Nat × Bool)}
variable {k k' : IntKind} {a b c m : Int} {v : Value} {p q : Bool}

theorem Do_move (hx : ev ρ x = v) : Do P ⟨d, .move x, ty, pos, af, g⟩ ρ w v w := by unfold Do; simp [execOp, hx]
theorem Do_assign (hx : ev ρ x = v) : Do P ⟨d, .assign x, ty, pos, af, g⟩ ρ w v w := by unfold Do; simp [execOp, hx]
theorem Do_pick_t (hx : ev ρ x = .bool true) (hy : ev ρ y = v) : Do P ⟨d, .pick x y z, ty, pos, af, g⟩ ρ w v w := by unfold Do; simp [execOp, hx, hy, asBool]
theorem Do_pick_f (hx : ev ρ x = .bool false) (hz : ev ρ z = v) : Do P ⟨d, .pick x y z, ty, pos, af, g⟩ ρ w v w := by unfold Do; simp [execOp, hx, hz, asBool]

theorem Do_add (hx : ev ρ x = .int k a) (hy : ev ρ y = .int k b) (hr : k.wrap (a + b) = c) : Do P ⟨d, .binOp .add t x y u, ty, pos, af, g⟩ ρ w (.int k c) w := by
  unfold Do; simp [execOp, hx, hy, eqGuard, binOp, Op.intArith, hr]
theorem Do_sub (hx : ev ρ x = .int k a) (hy : ev ρ y = .int k b) (hr : k.wrap (a - b) = c) : Do P ⟨d, .binOp .sub t x y u, ty, pos, af, g⟩ ρ w (.int k c) w := by
  unfold Do; simp [execOp, hx, hy, eqGuard, binOp, Op.intArith, hr]
theorem Do_mul (hx : ev ρ x = .int k a) (hy : ev ρ y = .int k b) (hr : k.wrap (a * b) = c) : Do P ⟨d, .binOp .mul t x y u, ty, pos, af, g⟩ ρ w (.int k c) w := by
  unfold Do; simp [execOp, hx, hy, eqGuard, binOp, Op.intArith, hr]
/-- '/' and '%' of numbers that are not negative. -/
theorem Do_quo (hx : ev ρ x = .int k a) (hy : ev ρ y = .int k b) (h0 : 0 ≤ a) (h1 : 0 < b) (hr : k.wrap (a / b) = c) : Do P ⟨d, .binOp .quo t x y u, ty, pos, af, g⟩ ρ w (.int k c) w := by
  unfold Do; simp [execOp, hx, hy, eqGuard, binOp, Op.intDiv, show b ≠ 0 by omega, Int.tdiv_eq_ediv_of_nonneg h0, hr]
theorem Do_rem (hx : ev ρ x = .int k a) (hy : ev ρ y = .int k b) (h0 : 0 ≤ a) (h1 : 0 < b) : Do P ⟨d, .binOp .rem t x y u, ty, pos, af, g⟩ ρ w (.int k (a % b)) w := by
  unfold Do; simp [execOp, hx, hy, eqGuard, binOp, Op.intDiv, show b ≠ 0 by omega, Int.tmod_eq_emod_of_nonneg h0]
theorem Do_tquo (hx : ev ρ x = .int k a) (hy : ev ρ y = .int k b) (h1 : b ≠ 0) (hr : k.wrap (a.tdiv b) = c) : Do P ⟨d, .binOp .quo t x y u, ty, pos, af, g⟩ ρ w (.int k c) w := by
  unfold Do; simp [execOp, hx, hy, eqGuard, binOp, Op.intDiv, h1, hr]
theorem Do_trem (hx : ev ρ x = .int k a) (hy : ev ρ y = .int k b) (h1 : b ≠ 0) : Do P ⟨d, .binOp .rem t x y u, ty, pos, af, g⟩ ρ w (.int k (a.tmod b)) w := by
  unfold Do; simp [execOp, hx, hy, eqGuard, binOp, Op.intDiv, h1]

theorem Do_lss (hx : ev ρ x = .int k a) (hy : ev ρ y = .int k b) : Do P ⟨d, .binOp .lss t x y u, ty, pos, af, g⟩ ρ w (.bool (decide (a < b))) w := by
  unfold Do; simp [execOp, hx, hy, eqGuard, binOp, Op.intCmp]
theorem Do_leq (hx : ev ρ x = .int k a) (hy : ev ρ y = .int k b) : Do P ⟨d, .binOp .leq t x y u, ty, pos, af, g⟩ ρ w (.bool (decide (a ≤ b))) w := by
  unfold Do; simp [execOp, hx, hy, eqGuard, binOp, Op.intCmp]
theorem Do_gtr (hx : ev ρ x = .int k a) (hy : ev ρ y = .int k b) : Do P ⟨d, .binOp .gtr t x y u, ty, pos, af, g⟩ ρ w (.bool (decide (b < a))) w := by
  unfold Do; simp [execOp, hx, hy, eqGuard, binOp, Op.intCmp]
theorem Do_geq (hx : ev ρ x = .int k a) (hy : ev ρ y = .int k b) : Do P ⟨d, .binOp .geq t x y u, ty, pos, af, g⟩ ρ w (.bool (decide (b ≤ a))) w := by
  unfold Do; simp [execOp, hx, hy, eqGuard, binOp, Op.intCmp]
theorem Do_eql (hx : ev ρ x = .int k a) (hy : ev ρ y = .int k b) : Do P ⟨d, .binOp .eql t x y u, ty, pos, af, g⟩ ρ w (.bool (decide (a = b))) w := by
  have h : (a == b) = decide (a = b) := by rw [Bool.eq_iff_iff]; simp
  unfold Do; simp [execOp, hx, hy, eqGuard, binOp, Op.intCmp, h]
theorem Do_neq (hx : ev ρ x = .int k a) (hy : ev ρ y = .int k b) : Do P ⟨d, .binOp .neq t x y u, ty, pos, af, g⟩ ρ w (.bool (decide (a ≠ b))) w := by
  have h : (a != b) = decide (a ≠ b) := by rw [Bool.eq_iff_iff]; simp
  unfold Do; simp [execOp, hx, hy, eqGuard, binOp, Op.intCmp, h]

theorem Do_and (hx : ev ρ x = .int k a) (hy : ev ρ y = .int k b) (hr : bits .and k a b = c) : Do P ⟨d, .binOp .and t x y u, ty, pos, af, g⟩ ρ w (.int k c) w := by
  unfold Do; simp [execOp, hx, hy, eqGuard, binOp, intBits_and, hr]
theorem Do_or (hx : ev ρ x = .int k a) (hy : ev ρ y = .int k b) (hr : bits .or k a b = c) : Do P ⟨d, .binOp .or t x y u, ty, pos, af, g⟩ ρ w (.int k c) w := by
  unfold Do; simp [execOp, hx, hy, eqGuard, binOp, intBits_or, hr]
theorem Do_xor (hx : ev ρ x = .int k a) (hy : ev ρ y = .int k b) (hr : bits .xor k a b = c) : Do P ⟨d, .binOp .xor t x y u, ty, pos, af, g⟩ ρ w (.int k c) w := by
  unfold Do; simp [execOp, hx, hy, eqGuard, binOp, intBits_xor, hr]
theorem Do_shr (hx : ev ρ x = .int k a) (hy : ev ρ y = .int k' b) (h0 : 0 ≤ b) (h1 : b ≤ k.bits) (hm : (2 : Int) ^ b.toNat = m) : Do P ⟨d, .binOp .shr t x y u, ty, pos, af, g⟩ ρ w (.int k (a / m)) w := by
  unfold Do; simp [execOp, hx, hy, eqGuard, binOp, shift_shr k k' a b h0 h1, hm]
theorem Do_shl (hx : ev ρ x = .int k a) (hy : ev ρ y = .int k' b) (h0 : 0 ≤ b) (h1 : b ≤ k.bits) (hm : (2 : Int) ^ b.toNat = m) (hr : k.wrap (a * m) = c) : Do P ⟨d, .binOp .shl t x y u, ty, pos, af, g⟩ ρ w (.int k c) w := by
  unfold Do; simp [execOp, hx, hy, eqGuard, binOp, shift_shl k k' a b h0 h1, hm, hr]
theorem Do_not (hx : ev ρ x = .bool p) : Do P ⟨d, .unOp .not t x, ty, pos, af, g⟩ ρ w (.bool (!p)) w := by
  unfold Do; simp [execOp, hx, Op.unary]
theorem Do_not' {r : Prop} [Decidable r] (hx : ev ρ x = .bool (decide r)) : Do P ⟨d, .unOp .not t x, ty, pos, af, g⟩ ρ w (.bool (decide (¬ r))) w := by
  unfold Do; simp [execOp, hx, Op.unary]
theorem Do_neg (hx : ev ρ x = .int k a) (hr : k.wrap (-a) = c) : Do P ⟨d, .unOp .neg t x, ty, pos, af, g⟩ ρ w (.int k c) w := by
  unfold Do; simp [execOp, hx, Op.unary, Op.intArith, hr]
theorem Do_conv {ds : TypeDesc} (hs : P.underlying t = some ds) (hd : P.underlying u = some (.int k')) (hx : ev ρ x = .int k a) (hr : k'.wrap a = c) : Do P ⟨d, .convert t u x, ty, pos, af, g⟩ ρ w (.int k' c) w := by
  unfold Do; simp [execOp, hx, convert, run_underlying hs, run_underlying hd, Conv.intToInt, hr]
theorem Do_eqlb (hu : P.underlying t = some .bool) (hx : ev ρ x = .bool p) (hy : ev ρ y = .bool q) : Do P ⟨d, .binOp .eql t x y u, ty, pos, af, g⟩ ρ w (.bool (p == q)) w := by
  unfold Do; simp [execOp, hx, hy, eqGuard, run_eql_bool w t p q hu]
theorem Do_neqb (hu : P.underlying t = some .bool) (hx : ev ρ x = .bool p) (hy : ev ρ y = .bool q) : Do P ⟨d, .binOp .neq t x y u, ty, pos, af, g⟩ ρ w (.bool (!(p == q))) w := by
  unfold Do; simp [execOp, hx, hy, eqGuard, run_neq_bool w t p q hu]
theorem Do_nilCheck {ad : Addr} (hx : ev ρ x = .pointer (some ad)) : Do P ⟨d, .nilCheck x, ty, pos, af, g⟩ ρ w (.pointer (some ad)) w := by
  unfold Do; simp [execOp, hx]
theorem Do_extract {vs : Array Value} {i : Nat} (hx : ev ρ x = .tuple vs) (hi : vs[i]? = some v) : Do P ⟨d, .extract x i, ty, pos, af, g⟩ ρ w v w := by
  unfold Do; simp [execOp, hx, Instr.extract, hi]
end ops

/-! ### Memory -/
/-- From w to w' no block that was there has changed but for those of S. -/
structure Only (S : List Nat) (w w' : World) : Prop where
  os : w'.os = w.os
  tape : w'.tape = w.tape
  output : w'.output = w.output
  size : w.heap.size ≤ w'.heap.size
  block : ∀ k, k < w.heap.size → k ∉ S → w'.heap[k]? = w.heap[k]?

theorem Only.refl (S : List Nat) (w : World) : Only S w w := ⟨rfl, rfl, rfl, Nat.le_refl _, fun _ _ _ => rfl⟩
theorem Only.trans {S : List Nat} {a b c : World} (h : Only S a b) (k : Only S b c) : Only S a c :=
  ⟨k.os.trans h.os, k.tape.trans h.tape, k.output.trans h.output, Nat.le_trans h.size k.size, fun i hi hs => (k.block i (Nat.lt_of_lt_of_le hi h.size) hs).trans (h.block i hi hs)⟩
theorem Only.mono {S S' : List Nat} {a b : World} (h : Only S a b) (hs : ∀ i ∈ S, i ∈ S') : Only S' a b :=
  ⟨h.os, h.tape, h.output, h.size, fun i hi hn => h.block i hi (fun hm => hn (hs i hm))⟩
/-- A step that touches none of the old blocks but those of S. -/
theorem Only.step {S S' : List Nat} {a b c : World} (h : Only S a b) (k : Only S' b c) (hs : ∀ i ∈ S', a.heap.size ≤ i ∨ i ∈ S) : Only S a c :=
  ⟨k.os.trans h.os, k.tape.trans h.tape, k.output.trans h.output, Nat.le_trans h.size k.size, fun i hi hn =>
    (k.block i (Nat.lt_of_lt_of_le hi h.size) (fun hm => (hs i hm).elim (fun h => by omega) hn)).trans (h.block i hi hn)⟩
theorem Only.below {w w' : World} (h : Only [] w w') : Below w.heap.size w w' := ⟨h.os, h.tape, h.output, h.size, fun k hk => h.block k hk (by simp)⟩
theorem Only.of_below {w w' : World} (h : Below w.heap.size w w') : Only [] w w' := ⟨h.os, h.tape, h.output, h.size, fun k hk _ => h.block k hk⟩

/-- Block b is these cells. -/
def Blk (w : World) (b : Nat) (cs : List Value) (T : TypeId) : Prop := w.heap[b]? = some (.cells cs.toArray T (0, 0))

theorem Blk.lt {w : World} {b : Nat} {cs : List Value} {T : TypeId} (h : Blk w b cs T) : b < w.heap.size := (Array.getElem?_eq_some_iff.1 h).1
theorem Blk.cell {w : World} {b : Nat} {cs : List Value} {T : TypeId} (h : Blk w b cs T) {i : Nat} {v : Value} (hi : cs[i]? = some v) : w.cell? ⟨b, i, none⟩ = some v := by
  rw [cell_of_row w b i cs.toArray T (0, 0) h]; simpa using hi
theorem Blk.frozen {w : World} {b : Nat} {cs : List Value} {T : TypeId} (h : Blk w b cs T) (i : Nat) : w.frozen? ⟨b, i, none⟩ = false := frozen_of_row w b i cs.toArray T h
theorem Blk.only {S : List Nat} {w w' : World} {b : Nat} {cs : List Value} {T : TypeId} (h : Blk w b cs T) (ho : Only S w w') (hb : b ∉ S) : Blk w' b cs T := by
  have hl := h.lt; unfold Blk at *; rw [ho.block b hl hb]; exact h
theorem Blk.sees {w w' : World} {b : Nat} {cs : List Value} {T : TypeId} (h : Blk w b cs T) (ho : Sees w w') : Blk w' b cs T := by
  have hl := h.lt; unfold Blk at *; rw [ho.block b hl]; exact h
theorem Blk.below {B : Nat} {w w' : World} {b : Nat} {cs : List Value} {T : TypeId} (h : Blk w b cs T) (ho : Below B w w') (hb : b < B) : Blk w' b cs T := by
  unfold Blk at *; rw [ho.block b hb]; exact h

/-- From the address a on lie these cells. -/
def Cells (w : World) (a : Addr) (cs : List Value) : Prop := ∀ i v, cs[i]? = some v → w.cell? (a.add i) = some v

theorem Addr.add_none (b o i : Nat) : (⟨b, o, none⟩ : Addr).add i = ⟨b, o + i, none⟩ := by unfold Addr.add; split <;> simp_all
theorem Addr.add_block (a : Addr) (i : Nat) : (a.add i).block = a.block := by unfold Addr.add; split <;> rfl
theorem Cells.only {S : List Nat} {w w' : World} {a : Addr} {cs : List Value} (h : Cells w a cs) (ho : Only S w w') (ha : a.block ∉ S) : Cells w' a cs := by
  intro i v hv
  have hc := h i v hv
  have hlt : (a.add i).block < w.heap.size := World.block_lt_of_cell? _ _ hc
  rw [World.cell?_of_block (w := w) (ho.block _ hlt (by rw [Addr.add_block]; exact ha))]
  exact hc
theorem Cells.sees {w w' : World} {a : Addr} {cs : List Value} (h : Cells w a cs) (ho : Sees w w') : Cells w' a cs := h.only (Only.of_below ho) (by simp)
theorem Cells.get {w : World} {b o : Nat} {cs : List Value} (h : Cells w ⟨b, o, none⟩ cs) {i : Nat} {v : Value} (hi : cs[i]? = some v) : w.cell? ⟨b, o + i, none⟩ = some v := by
  rw [← Addr.add_none]; exact h i v hi
theorem Blk.cells {w : World} {b : Nat} {cs : List Value} {T : TypeId} (h : Blk w b cs T) : Cells w ⟨b, 0, none⟩ cs := by
  intro i v hv; rw [Addr.add_none]; simpa using h.cell hv
theorem Cells.drop {w : World} {b o : Nat} {cs : List Value} (h : Cells w ⟨b, o, none⟩ cs) (n m : Nat) : Cells w ⟨b, o + n, none⟩ ((cs.drop n).take m) := by
  intro i v hv
  rw [Addr.add_none, Nat.add_assoc]
  refine h.get ?_
  rw [List.getElem?_take] at hv
  split at hv
  · rwa [List.getElem?_drop] at hv
  · cases hv

theorem cell_sees {w w' : World} (hw : Sees w w') {a : Addr} {v : Value} (h : w.cell? a = some v) : w'.cell? a = some v := by
  rw [World.cell?_of_block (w := w) (hw.block _ (World.block_lt_of_cell? _ _ h))]; exact h

/-- The number of cells of a type. -/
def Sz (P : Program) (t : TypeId) (n : Nat) : Prop := (P.info? t).map (·.size) = some n
/-- The type's values are one cell each. -/
def OneC (P : Program) (t : TypeId) : Prop := (P.underlying t).map (fun d => match d with | .struct _ | .array _ _ => false | _ => true) = some true
def Agg (P : Program) (t : TypeId) : Prop := (P.underlying t).map (fun d => match d with | .struct _ | .array _ _ => true | _ => false) = some true
/-- The type's zero value has these cells. -/
def Zero (P : Program) (t : TypeId) (cs : List Value) : Prop := ((P.info? t).bind (·.zero)).map (·.cells.toList) = some cs

theorem run_sizeOf' {P : Program} {t : TypeId} {n : Nat} (h : Sz P t n) (w : World) : (sizeOf t).run P w = .ok n w := by
  unfold Sz at h
  cases hi : P.info? t with
  | none => rw [hi] at h; cases h
  | some i => rw [hi] at h; simp at h; simp [sizeOf, typeInfo, hi, h]
theorem run_isAgg_one {P : Program} {t : TypeId} (h : OneC P t) (w : World) : (isAgg t).run P w = .ok false w := by
  unfold OneC at h
  cases hu : P.underlying t with
  | none => rw [hu] at h; cases h
  | some d => rw [hu] at h; cases d <;> simp at h <;> simp [isAgg, run_underlying hu]
theorem run_isAgg_agg {P : Program} {t : TypeId} (h : Agg P t) (w : World) : (isAgg t).run P w = .ok true w := by
  unfold Agg at h
  cases hu : P.underlying t with
  | none => rw [hu] at h; cases h
  | some d => rw [hu] at h; cases d <;> simp at h <;> simp [isAgg, run_underlying hu]

theorem run_loadVar_one {P : Program} {t : TypeId} {a : Addr} {v : Value} {w : World} (h1 : OneC P t) (hc : w.cell? a = some v) : (loadVar t a).run P w = .ok v w := by
  have hl : (load a .plain).run P w = .ok v w := by simp [load, Sem.run, hc]
  simp only [loadVar, Sem.run_bind, run_isAgg_one h1, Result.andThen]
  exact hl
theorem run_loadVar_agg {P : Program} {t : TypeId} {n : Nat} {a : Addr} {cs : List Value} {w : World} (h1 : Agg P t) (hs : Sz P t n) (hl : cs.length = n) (hc : Cells w a cs) : (loadVar t a).run P w = .ok (.agg cs.toArray) w := by
  subst hl
  have hl := run_loadCells_list (P := P) w a cs hc
  simp [loadVar, Sem.run_bind, run_isAgg_agg h1, run_sizeOf' hs, hl]

/-- Block b is new, or written: the world behind a store. -/
structure Wr (w w' : World) (b : Nat) (cs : List Value) (T : TypeId) : Prop where
  blk : Blk w' b cs T
  only : Only [b] w w'
  size : w'.heap.size = w.heap.size
/-- A new block. -/
structure Al (w w' : World) (b : Nat) (cs : List Value) (T : TypeId) : Prop where
  at_ : b = w.heap.size
  blk : Blk w' b cs T
  only : Only [] w w'
  size : w'.heap.size = w.heap.size + 1

theorem Al.mk' (w : World) (cs : List Value) (T : TypeId) : Al w (w.alloc (.cells cs.toArray T)) w.heap.size cs T :=
  ⟨rfl, heap_alloc_new w _, ⟨rfl, rfl, rfl, by simp, fun k hk _ => Below.heap_alloc w _ k hk⟩, by simp⟩
theorem Wr.setRow {w : World} {b : Nat} {cs : List Value} {T : TypeId} (h : Blk w b cs T) (cs' : List Value) : Wr w (w.setRow b cs'.toArray) b cs' T :=
  ⟨setRow_heap w b _ _ T (0, 0) h, ⟨rfl, rfl, rfl, by simp, fun k _ hn => setRow_other w b k _ (fun e => hn (by simp [e]))⟩, by simp⟩

section mem
variable {P : Program} {N : Nat} {ops : Array Oper} {Q : Exit → Env → World → Prop} {rest : List Oper} {ρ : Env} {w : World} {d : Nat} {do_ : Option Tmp} {x y z : Operand} {t u ty : TypeId} {pos : String} {af : Array Edge} {g : Option (Nat × Bool)}
variable {v : Value} {b i : Nat} {cs : List Value} {T : TypeId}

theorem Do_load {a : Addr} (h1 : OneC P t) (hx : ev ρ x = .pointer (some a)) (hc : w.cell? a = some v) : Do P ⟨do_, .load t x, ty, pos, af, g⟩ ρ w v w := by
  unfold Do; simp [execOp, hx, Instr.loadAt, Instr.sureAddr, run_loadVar_one h1 hc]
theorem Do_loads {a : Addr} {n : Nat} (h1 : Agg P t) (hx : ev ρ x = .pointer (some a)) (hs : Sz P t n) (hl : cs.length = n) (hc : Cells w a cs) : Do P ⟨do_, .load t x, ty, pos, af, g⟩ ρ w (.agg cs.toArray) w := by
  unfold Do; simp [execOp, hx, Instr.loadAt, Instr.sureAddr, run_loadVar_agg h1 hs hl hc]

theorem RL_alloc (hw : wantE N ops ρ ⟨some d, .alloc t, ty, pos, af, g⟩ = true) (hd : Nat.blt d N = true) (hz : Zero P t cs)
    (k : ∀ b w', Al w w' b cs t → RL P N ops Q rest (upd ρ d (.pointer (some ⟨b, 0, none⟩))) w') : RL P N ops Q (⟨some d, .alloc t, ty, pos, af, g⟩ :: rest) ρ w := by
  refine RL_do (v := .pointer (some ⟨w.heap.size, 0, none⟩)) (w' := w.alloc (.cells cs.toArray t)) hw hd ?_ (k _ _ (Al.mk' w cs t))
  unfold Zero at hz
  cases hi : P.info? t with
  | none => rw [hi] at hz; cases hz
  | some inf =>
    rw [hi] at hz
    cases hzz : inf.zero with
    | none => simp [hzz] at hz
    | some zv =>
      simp [hzz] at hz
      unfold Do
      simp [execOp, Instr.alloc, zeroValue, typeInfo, hi, hzz, newVar, newRow, newObj, Sem.run, ← hz]

theorem RL_box (hw : wantE N ops ρ ⟨some d, .box t x, ty, pos, af, g⟩ = true) (hd : Nat.blt d N = true) (hx : ev ρ x = .agg cs.toArray)
    (k : ∀ b w', Al w w' b cs t → RL P N ops Q rest (upd ρ d (.pointer (some ⟨b, 0, none⟩))) w') : RL P N ops Q (⟨some d, .box t x, ty, pos, af, g⟩ :: rest) ρ w := by
  refine RL_do (v := .pointer (some ⟨w.heap.size, 0, none⟩)) (w' := w.alloc (.cells cs.toArray t)) hw hd ?_ (k _ _ (Al.mk' w cs t))
  unfold Do
  simp [execOp, hx, Instr.box, newVar, newRow, newObj, Sem.run, Value.cells]
theorem RL_box1 (hw : wantE N ops ρ ⟨some d, .box t x, ty, pos, af, g⟩ = true) (hd : Nat.blt d N = true) (hx : ev ρ x = v) (hv : v.cells = #[v])
    (k : ∀ b w', Al w w' b [v] t → RL P N ops Q rest (upd ρ d (.pointer (some ⟨b, 0, none⟩))) w') : RL P N ops Q (⟨some d, .box t x, ty, pos, af, g⟩ :: rest) ρ w := by
  refine RL_do (v := .pointer (some ⟨w.heap.size, 0, none⟩)) (w' := w.alloc (.cells #[v] t)) hw hd ?_ (k _ _ (Al.mk' w [v] t))
  unfold Do
  simp [execOp, hx, Instr.box, newVar, newRow, newObj, Sem.run, hv]

/-- A store into a block of cells. -/
theorem RL_store {vs : List Value} (hw : wantE N ops ρ ⟨none, .store t x y, ty, pos, af, g⟩ = true) (hs : Sz P t vs.length) (hx : ev ρ x = .pointer (some ⟨b, i, none⟩)) (hy : (ev ρ y).cells = vs.toArray)
    (h1 : ∀ v ∈ vs, v.oneCell' = true) (hb : Blk w b cs T) (hi : i + vs.length ≤ cs.length)
    (k : ∀ w', Wr w w' b (cs.take i ++ vs ++ cs.drop (i + vs.length)) T → RL P N ops Q rest ρ w') : RL P N ops Q (⟨none, .store t x y, ty, pos, af, g⟩ :: rest) ρ w := by
  refine RL_doU hw (w' := w.setRow b (cs.take i ++ vs ++ cs.drop (i + vs.length)).toArray) ?_ (k _ (Wr.setRow hb _))
  have h := run_storeCells_at P b i T vs 0 cs.toArray w hb (by simpa using hi) h1
  simp only [Nat.add_zero] at h
  unfold DoU
  simp [execOp, hx, Instr.storeAt, Instr.sureAddr, storeVar, hy, run_sizeOf' hs, h]
theorem RL_store1 (hw : wantE N ops ρ ⟨none, .store t x y, ty, pos, af, g⟩ = true) (hs : Sz P t 1) (hx : ev ρ x = .pointer (some ⟨b, i, none⟩)) (hy : ev ρ y = v)
    (h1 : v.oneCell' = true) (hb : Blk w b cs T) (hi : i < cs.length)
    (k : ∀ w', Wr w w' b (cs.set i v) T → RL P N ops Q rest ρ w') : RL P N ops Q (⟨none, .store t x y, ty, pos, af, g⟩ :: rest) ρ w := by
  have hv : (ev ρ y).cells = [v].toArray := by rw [hy]; cases v <;> simp_all [Value.cells, Value.oneCell']
  refine RL_store hw (vs := [v]) (by simpa using hs) hx hv (by simpa using h1) hb (Nat.succ_le_of_lt hi) fun w' hw' => k w' ?_
  have : cs.take i ++ [v] ++ cs.drop (i + [v].length) = cs.set i v := by
    rw [List.set_eq_take_append_cons_drop, if_pos hi]; simp
  rwa [this] at hw'
/-- A whole variable written. -/
theorem RL_storeAll {vs : List Value} (hw : wantE N ops ρ ⟨none, .store t x y, ty, pos, af, g⟩ = true) (hs : Sz P t vs.length) (hx : ev ρ x = .pointer (some ⟨b, 0, none⟩)) (hy : (ev ρ y).cells = vs.toArray)
    (h1 : ∀ v ∈ vs, v.oneCell' = true) (hb : Blk w b cs T) (hi : vs.length = cs.length)
    (k : ∀ w', Wr w w' b vs T → RL P N ops Q rest ρ w') : RL P N ops Q (⟨none, .store t x y, ty, pos, af, g⟩ :: rest) ρ w := by
  refine RL_store hw hs hx hy h1 hb (by omega) fun w' hw' => k w' ?_
  have : cs.take 0 ++ vs ++ cs.drop (0 + vs.length) = vs := by simp [List.drop_eq_nil_of_le, hi]
  rwa [this] at hw'
end mem
end Go.OB
