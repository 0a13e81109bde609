/- Rules for single operations: numbers, memory cells, calls. -/
import Derived.Test.YtnajnkghilemhaaGreatDoorOb
namespace Go.OB
open Go.RowKit

theorem wrap_i64 {n : Int} (h : -9223372036854775808 ≤ n) (h' : n ≤ 9223372036854775807) : IntKind.i64.wrap n = n := by rw [IntKind.wrap_i64]; omega
theorem wrap_u64 {n : Int} (h : 0 ≤ n) (h' : n < 18446744073709551616) : IntKind.u64.wrap n = n := by rw [IntKind.wrap_u64]; omega

section ops
variable {P : Program} {ρ : Env} {w : World} {d : Option Tmp} {x y z : Operand} {t u ty : TypeId} {pos : String} {af : Array Edge} {g : Option (Nat × Bool)}
variable {k k' : IntKind} {a b c m : Int} {v : Value} {p q : Bool}

theorem xI (hx : ev ρ x = v) : Do P ⟨d, .move x, ty, pos, af, g⟩ ρ w v w := by unfold Do; simp [execOp, hx]
theorem xU (hx : ev ρ x = v) : Do P ⟨d, .assign x, ty, pos, af, g⟩ ρ w v w := by unfold Do; simp [execOp, hx]
theorem yI (hx : ev ρ x = .bool true) (hy : ev ρ y = v) : Do P ⟨d, .pick x y z, ty, pos, af, g⟩ ρ w v w := by unfold Do; simp [execOp, hx, hy, asBool]
theorem yE (hx : ev ρ x = .bool false) (hz : ev ρ z = v) : Do P ⟨d, .pick x y z, ty, pos, af, g⟩ ρ w v w := by unfold Do; simp [execOp, hx, hz, asBool]

theorem wC (hx : ev ρ x = .int k a) (hy : ev ρ y = .int k b) (hr : k.wrap (a + b) = c) : Do P ⟨d, .binOp .add t x y u, ty, pos, af, g⟩ ρ w (.int k c) w := by
  unfold Do; simp [execOp, hx, hy, eqGuard, binOp, Op.intArith, hr]
theorem Do_sub (hx : ev ρ x = .int k a) (hy : ev ρ y = .int k b) (hr : k.wrap (a - b) = c) : Do P ⟨d, .binOp .sub t x y u, ty, pos, af, g⟩ ρ w (.int k c) w := by
  unfold Do; simp [execOp, hx, hy, eqGuard, binOp, Op.intArith, hr]
theorem Do_mul (hx : ev ρ x = .int k a) (hy : ev ρ y = .int k b) (hr : k.wrap (a * b) = c) : Do P ⟨d, .binOp .mul t x y u, ty, pos, af, g⟩ ρ w (.int k c) w := by
  unfold Do; simp [execOp, hx, hy, eqGuard, binOp, Op.intArith, hr]
theorem xZ (hx : ev ρ x = .int k a) (hy : ev ρ y = .int k b) : Do P ⟨d, .binOp .lss t x y u, ty, pos, af, g⟩ ρ w (.bool (decide (a < b))) w := by
  unfold Do; simp [execOp, hx, hy, eqGuard, binOp, Op.intCmp]
theorem Do_leq (hx : ev ρ x = .int k a) (hy : ev ρ y = .int k b) : Do P ⟨d, .binOp .leq t x y u, ty, pos, af, g⟩ ρ w (.bool (decide (a ≤ b))) w := by
  unfold Do; simp [execOp, hx, hy, eqGuard, binOp, Op.intCmp]
theorem Do_gtr (hx : ev ρ x = .int k a) (hy : ev ρ y = .int k b) : Do P ⟨d, .binOp .gtr t x y u, ty, pos, af, g⟩ ρ w (.bool (decide (b < a))) w := by
  unfold Do; simp [execOp, hx, hy, eqGuard, binOp, Op.intCmp]
theorem Do_geq (hx : ev ρ x = .int k a) (hy : ev ρ y = .int k b) : Do P ⟨d, .binOp .geq t x y u, ty, pos, af, g⟩ ρ w (.bool (decide (b ≤ a))) w := by
  unfold Do; simp [execOp, hx, hy, eqGuard, binOp, Op.intCmp]
theorem yP (hx : ev ρ x = .int k a) (hy : ev ρ y = .int k b) : Do P ⟨d, .binOp .eql t x y u, ty, pos, af, g⟩ ρ w (.bool (decide (a = b))) w := by
  have h : (a == b) = decide (a = b) := by rw [Bool.eq_iff_iff]; simp
  unfold Do; simp [execOp, hx, hy, eqGuard, binOp, Op.intCmp, h]
theorem Do_neq (hx : ev ρ x = .int k a) (hy : ev ρ y = .int k b) : Do P ⟨d, .binOp .neq t x y u, ty, pos, af, g⟩ ρ w (.bool (decide (a ≠ b))) w := by
  have h : (a != b) = decide (a ≠ b) := by rw [Bool.eq_iff_iff]; simp
  unfold Do; simp [execOp, hx, hy, eqGuard, binOp, Op.intCmp, h]

theorem Do_shr (hx : ev ρ x = .int k a) (hy : ev ρ y = .int k' b) (h0 : 0 ≤ b) (h1 : b ≤ k.bits) (hm : (2 : Int) ^ b.toNat = m) : Do P ⟨d, .binOp .shr t x y u, ty, pos, af, g⟩ ρ w (.int k (a / m)) w := by
  unfold Do; simp [execOp, hx, hy, eqGuard, binOp, shift_shr k k' a b h0 h1, hm]
theorem xY (hx : ev ρ x = .bool p) : Do P ⟨d, .unOp .not t x, ty, pos, af, g⟩ ρ w (.bool (!p)) w := by
  unfold Do; simp [execOp, hx, Op.unary]
theorem Do_neg (hx : ev ρ x = .int k a) (hr : k.wrap (-a) = c) : Do P ⟨d, .unOp .neg t x, ty, pos, af, g⟩ ρ w (.int k c) w := by
  unfold Do; simp [execOp, hx, Op.unary, Op.intArith, hr]
theorem Do_conv {ds : TypeDesc} (hs : P.underlying t = some ds) (hd : P.underlying u = some (.int k')) (hx : ev ρ x = .int k a) (hr : k'.wrap a = c) : Do P ⟨d, .convert t u x, ty, pos, af, g⟩ ρ w (.int k' c) w := by
  unfold Do; simp [execOp, hx, convert, run_underlying hs, run_underlying hd, Conv.intToInt, hr]
theorem yG {ad : Addr} (hx : ev ρ x = .pointer (some ad)) : Do P ⟨d, .nilCheck x, ty, pos, af, g⟩ ρ w (.pointer (some ad)) w := by
  unfold Do; simp [execOp, hx]
theorem wB {vs : Array Value} {i : Nat} (hx : ev ρ x = .tuple vs) (hi : vs[i]? = some v) : Do P ⟨d, .extract x i, ty, pos, af, g⟩ ρ w v w := by
  unfold Do; simp [execOp, hx, Instr.extract, hi]
end ops

/-! ### Memory -/
structure Only (S : List Nat) (w w' : World) : Prop where
  os : w'.os = w.os
  tape : w'.tape = w.tape
  output : w'.output = w.output
  size : w.heap.size ≤ w'.heap.size
  block : ∀ k, k < w.heap.size → k ∉ S → w'.heap[k]? = w.heap[k]?

theorem Only.refl (S : List Nat) (w : World) : Only S w w := ⟨rfl, rfl, rfl, Nat.le_refl _, fun _ _ _ => rfl⟩
theorem Only.trans {S : List Nat} {a b c : World} (h : Only S a b) (k : Only S b c) : Only S a c :=
  ⟨k.os.trans h.os, k.tape.trans h.tape, k.output.trans h.output, Nat.le_trans h.size k.size, fun i hi hs => (k.block i (Nat.lt_of_lt_of_le hi h.size) hs).trans (h.block i hi hs)⟩
theorem Only.mono {S S' : List Nat} {a b : World} (h : Only S a b) (hs : ∀ i ∈ S, i ∈ S') : Only S' a b :=
  ⟨h.os, h.tape, h.output, h.size, fun i hi hn => h.block i hi (fun hm => hn (hs i hm))⟩
theorem Only.step {S S' : List Nat} {a b c : World} (h : Only S a b) (k : Only S' b c) (hs : ∀ i ∈ S', a.heap.size ≤ i ∨ i ∈ S) : Only S a c :=
  ⟨k.os.trans h.os, k.tape.trans h.tape, k.output.trans h.output, Nat.le_trans h.size k.size, fun i hi hn =>
    (k.block i (Nat.lt_of_lt_of_le hi h.size) (fun hm => (hs i hm).elim (fun h => by omega) hn)).trans (h.block i hi hn)⟩
theorem Only.below {w w' : World} (h : Only [] w w') : Below w.heap.size w w' := ⟨h.os, h.tape, h.output, h.size, fun k hk => h.block k hk (by simp)⟩
theorem Only.of_below {w w' : World} (h : Below w.heap.size w w') : Only [] w w' := ⟨h.os, h.tape, h.output, h.size, fun k hk _ => h.block k hk⟩

def Blk (w : World) (b : Nat) (cs : List Value) (T : TypeId) : Prop := w.heap[b]? = some (.cells cs.toArray T (0, 0))

theorem Blk.lt {w : World} {b : Nat} {cs : List Value} {T : TypeId} (h : Blk w b cs T) : b < w.heap.size := (Array.getElem?_eq_some_iff.1 h).1
theorem Blk.cell {w : World} {b : Nat} {cs : List Value} {T : TypeId} (h : Blk w b cs T) {i : Nat} {v : Value} (hi : cs[i]? = some v) : w.cell? ⟨b, i, none⟩ = some v := by
  rw [cell_of_row w b i cs.toArray T (0, 0) h]; simpa using hi
theorem Blk.frozen {w : World} {b : Nat} {cs : List Value} {T : TypeId} (h : Blk w b cs T) (i : Nat) : w.frozen? ⟨b, i, none⟩ = false := frozen_of_row w b i cs.toArray T h
theorem Blk.only {S : List Nat} {w w' : World} {b : Nat} {cs : List Value} {T : TypeId} (h : Blk w b cs T) (ho : Only S w w') (hb : b ∉ S) : Blk w' b cs T := by
  have hl := h.lt; unfold Blk at *; rw [ho.block b hl hb]; exact h
theorem Blk.sees {w w' : World} {b : Nat} {cs : List Value} {T : TypeId} (h : Blk w b cs T) (ho : Sees w w') : Blk w' b cs T := by
  have hl := h.lt; unfold Blk at *; rw [ho.block b hl]; exact h
theorem Blk.below {B : Nat} {w w' : World} {b : Nat} {cs : List Value} {T : TypeId} (h : Blk w b cs T) (ho : Below B w w') (hb : b < B) : Blk w' b cs T := by
  unfold Blk at *; rw [ho.block b hb]; exact h

def Cells (w : World) (a : Addr) (cs : List Value) : Prop := ∀ i v, cs[i]? = some v → w.cell? (a.add i) = some v

theorem Addr.add_none (b o i : Nat) : (⟨b, o, none⟩ : Addr).add i = ⟨b, o + i, none⟩ := by unfold Addr.add; split <;> simp_all
theorem Addr.add_block (a : Addr) (i : Nat) : (a.add i).block = a.block := by unfold Addr.add; split <;> rfl
theorem Cells.only {S : List Nat} {w w' : World} {a : Addr} {cs : List Value} (h : Cells w a cs) (ho : Only S w w') (ha : a.block ∉ S) : Cells w' a cs := by
  intro i v hv
  have hc := h i v hv
  have hlt : (a.add i).block < w.heap.size := World.block_lt_of_cell? _ _ hc
  rw [World.cell?_of_block (w := w) (ho.block _ hlt (by rw [Addr.add_block]; exact ha))]
  exact hc
theorem Cells.sees {w w' : World} {a : Addr} {cs : List Value} (h : Cells w a cs) (ho : Sees w w') : Cells w' a cs := h.only (Only.of_below ho) (by simp)
theorem Cells.get {w : World} {b o : Nat} {cs : List Value} (h : Cells w ⟨b, o, none⟩ cs) {i : Nat} {v : Value} (hi : cs[i]? = some v) : w.cell? ⟨b, o + i, none⟩ = some v := by
  rw [← Addr.add_none]; exact h i v hi
theorem Blk.cells {w : World} {b : Nat} {cs : List Value} {T : TypeId} (h : Blk w b cs T) : Cells w ⟨b, 0, none⟩ cs := by
  intro i v hv; rw [Addr.add_none]; simpa using h.cell hv
theorem Cells.drop {w : World} {b o : Nat} {cs : List Value} (h : Cells w ⟨b, o, none⟩ cs) (n m : Nat) : Cells w ⟨b, o + n, none⟩ ((cs.drop n).take m) := by
  intro i v hv
  rw [Addr.add_none, Nat.add_assoc]
  refine h.get ?_
  rw [List.getElem?_take] at hv
  split at hv
  · rwa [List.getElem?_drop] at hv
  · cases hv

def Sz (P : Program) (t : TypeId) (n : Nat) : Prop := (P.info? t).map (·.size) = some n
def OneC (P : Program) (t : TypeId) : Prop := (P.underlying t).map (fun d => match d with | .struct _ | .array _ _ => false | _ => true) = some true
def Agg (P : Program) (t : TypeId) : Prop := (P.underlying t).map (fun d => match d with | .struct _ | .array _ _ => true | _ => false) = some true
def Zero (P : Program) (t : TypeId) (cs : List Value) : Prop := ((P.info? t).bind (·.zero)).map (·.cells.toList) = some cs

theorem run_sizeOf' {P : Program} {t : TypeId} {n : Nat} (h : Sz P t n) (w : World) : (sizeOf t).run P w = .ok n w := by
  unfold Sz at h
  cases hi : P.info? t with
  | none => rw [hi] at h; cases h
  | some i => rw [hi] at h; simp at h; simp [sizeOf, typeInfo, hi, h]
theorem run_isAgg_one {P : Program} {t : TypeId} (h : OneC P t) (w : World) : (isAgg t).run P w = .ok false w := by
  unfold OneC at h
  cases hu : P.underlying t with
  | none => rw [hu] at h; cases h
  | some d => rw [hu] at h; cases d <;> simp at h <;> simp [isAgg, run_underlying hu]
theorem run_isAgg_agg {P : Program} {t : TypeId} (h : Agg P t) (w : World) : (isAgg t).run P w = .ok true w := by
  unfold Agg at h
  cases hu : P.underlying t with
  | none => rw [hu] at h; cases h
  | some d => rw [hu] at h; cases d <;> simp at h <;> simp [isAgg, run_underlying hu]

theorem run_loadVar_one {P : Program} {t : TypeId} {a : Addr} {v : Value} {w : World} (h1 : OneC P t) (hc : w.cell? a = some v) : (loadVar t a).run P w = .ok v w := by
  have hl : (load a .plain).run P w = .ok v w := by simp [load, Sem.run, hc]
  simp only [loadVar, Sem.run_bind, run_isAgg_one h1, Result.andThen]
  exact hl
theorem yC {P : Program} {t : TypeId} {n : Nat} {a : Addr} {cs : List Value} {w : World} (h1 : Agg P t) (hs : Sz P t n) (hl : cs.length = n) (hc : Cells w a cs) : (loadVar t a).run P w = .ok (.agg cs.toArray) w := by
  subst hl
  have hl := run_loadCells_list (P := P) w a cs hc
  simp [loadVar, Sem.run_bind, run_isAgg_agg h1, run_sizeOf' hs, hl]

structure Wr (w w' : World) (b : Nat) (cs : List Value) (T : TypeId) : Prop where
  blk : Blk w' b cs T
  only : Only [b] w w'
  size : w'.heap.size = w.heap.size
structure Al (w w' : World) (b : Nat) (cs : List Value) (T : TypeId) : Prop where
  at_ : b = w.heap.size
  blk : Blk w' b cs T
  only : Only [] w w'
  size : w'.heap.size = w.heap.size + 1

theorem Al.mk' (w : World) (cs : List Value) (T : TypeId) : Al w (w.alloc (.cells cs.toArray T)) w.heap.size cs T :=
  ⟨rfl, heap_alloc_new w _, ⟨rfl, rfl, rfl, by simp, fun k hk _ => Below.heap_alloc w _ k hk⟩, by simp⟩
theorem Wr.setRow {w : World} {b : Nat} {cs : List Value} {T : TypeId} (h : Blk w b cs T) (cs' : List Value) : Wr w (w.setRow b cs'.toArray) b cs' T :=
  ⟨setRow_heap w b _ _ T (0, 0) h, ⟨rfl, rfl, rfl, by simp, fun k _ hn => setRow_other w b k _ (fun e => hn (by simp [e]))⟩, by simp⟩

section mem
variable {P : Program} {N : Nat} {ops : Array Oper} {Q : Exit → Env → World → Prop} {rest : List Oper} {ρ : Env} {w : World} {d : Nat} {do_ : Option Tmp} {x y z : Operand} {t u ty : TypeId} {pos : String} {af : Array Edge} {g : Option (Nat × Bool)}
variable {v : Value} {b i : Nat} {cs : List Value} {T : TypeId}

theorem zT {a : Addr} (h1 : OneC P t) (hx : ev ρ x = .pointer (some a)) (hc : w.cell? a = some v) : Do P ⟨do_, .load t x, ty, pos, af, g⟩ ρ w v w := by
  unfold Do; simp [execOp, hx, Instr.loadAt, Instr.sureAddr, run_loadVar_one h1 hc]
theorem yM {a : Addr} {n : Nat} (h1 : Agg P t) (hx : ev ρ x = .pointer (some a)) (hs : Sz P t n) (hl : cs.length = n) (hc : Cells w a cs) : Do P ⟨do_, .load t x, ty, pos, af, g⟩ ρ w (.agg cs.toArray) w := by
  unfold Do; simp [execOp, hx, Instr.loadAt, Instr.sureAddr, yC h1 hs hl hc]

end mem
end Go.OB
