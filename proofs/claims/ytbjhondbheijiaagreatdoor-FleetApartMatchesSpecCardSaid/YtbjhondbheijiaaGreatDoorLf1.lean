/- Lifting: plain functions that may fail; how data lie in memory; what a function owns and what it reads. -/
import Derived.Test.YtbjhondbheijiaaGreatDoorOps5
namespace Go.Lf
open Go.RowKit Go.OB

/-! ### The plain side -/
section plain
variable {α β γ : Type}
def letO (a : α) (k : α → Option β) : Option β := k a
def bindO (a : Option α) (k : α → Option β) : Option β :=
  match a with
  | some x => k x
  | none => none
def iteB (b : Bool) (x y : Option β) : Option β :=
  match b with
  | true => x
  | false => y
def joinO (k : γ → Option β) (m : (γ → Option β) → Option β) : Option β := m k
def loopN (body : (γ → Option β) → γ → Option β) : Nat → γ → Option β
  | 0, _ => none
  | n + 1, g => body (loopN body n) g
@[irreducible] def FU : Nat := 18446744073709551616
def loopO (body : (γ → Option β) → γ → Option β) (g : γ) : Option β := loopN body FU g
theorem zH {a : α} {k : α → Option β} {r : β} (h : letO a k = some r) : ∃ t, a = t ∧ k t = some r := ⟨a, rfl, h⟩
theorem zJ {a : Option α} {k : α → Option β} {r : β} (h : bindO a k = some r) : ∃ t, a = some t ∧ k t = some r := by
  cases a with
  | none => cases h
  | some x => exact ⟨x, rfl, h⟩
theorem zW {b : Bool} {x y : Option β} {r : β} (c : b = true) (h : iteB b x y = some r) : x = some r := by subst c; exact h
theorem zX {b : Bool} {x y : Option β} {r : β} (c : b = false) (h : iteB b x y = some r) : y = some r := by subst c; exact h
theorem xU {k : γ → Option β} {m : (γ → Option β) → Option β} {r : β} (h : joinO k m = some r) : ∃ K, K = k ∧ m K = some r := ⟨k, rfl, h⟩
theorem yT {body : (γ → Option β) → γ → Option β} {g : γ} {r : β} (h : loopO body g = some r) : ∃ B n, B = body ∧ loopN B n g = some r := ⟨body, FU, rfl, h⟩
theorem yX {B : (γ → Option β) → γ → Option β} {n : Nat} {g : γ} {r : β} (h : loopN B n g = some r) : ∃ m, n = m + 1 ∧ B (loopN B m) g = some r := by
  cases n with
  | zero => cases h
  | succ m => exact ⟨m, rfl, h⟩
def at' (l : List α) (i : Int) : Option α := if 0 ≤ i then l[i.toNat]? else none
def set' (l : List α) (i : Int) (x : α) : Option (List α) := if 0 ≤ i ∧ i < l.length then some (l.set i.toNat x) else none
def sub' (l : List α) (i j : Int) : Option (List α) := if 0 ≤ i ∧ i ≤ j ∧ j ≤ l.length then some ((l.drop i.toNat).take (j - i).toNat) else none
/-- An append: the elements' bytes must not be more than a memory bears. -/
def app' (by_ : Nat) (l m : List α) : Option (List α) := if l.length + m.length ≤ maxLen ∧ (l.length + m.length) * by_ ≤ 140737488355328 then some (l ++ m) else none
def make' (by_ : Nat) (n : Int) (z : α) : Option (List α) := if 0 ≤ n ∧ by_ * n.toNat ≤ 140737488355328 ∧ n ≤ 9223372036854775807 then some (List.replicate n.toNat z) else none
def quo' (k : IntKind) (a b : Int) : Option Int := if b = 0 then none else some (k.wrap (a.tdiv b))
def rem' (a b : Int) : Option Int := if b = 0 then none else some (a.tmod b)
def shl' (k : IntKind) (a b : Int) : Option Int := if 0 ≤ b ∧ b ≤ k.bits then some (k.wrap (a * 2 ^ b.toNat)) else none
def shr' (k : IntKind) (a b : Int) : Option Int := if 0 ≤ b ∧ b ≤ k.bits then some (a / 2 ^ b.toNat) else none
theorem yD {l : List α} {i : Int} {x : α} (h : at' l i = some x) : 0 ≤ i ∧ i < l.length ∧ l[i.toNat]? = some x := by
  unfold at' at h
  split at h
  · have := (List.getElem?_eq_some_iff.1 h).1
    exact ⟨by assumption, by omega, h⟩
  · cases h
theorem set_some {l m : List α} {i : Int} {x : α} (h : set' l i x = some m) : 0 ≤ i ∧ i < l.length ∧ m = l.set i.toNat x := by
  unfold set' at h
  split at h
  · rename_i c; cases h; exact ⟨c.1, c.2, rfl⟩
  · cases h
theorem sub_some {l m : List α} {i j : Int} (h : sub' l i j = some m) : 0 ≤ i ∧ i ≤ j ∧ j ≤ l.length ∧ m = (l.drop i.toNat).take (j - i).toNat := by
  unfold sub' at h
  split at h
  · rename_i c; cases h; exact ⟨c.1, c.2.1, c.2.2, rfl⟩
  · cases h
theorem app_some {by_ : Nat} {l m r : List α} (h : app' by_ l m = some r) : l.length + m.length ≤ maxLen ∧ (l.length + m.length) * by_ ≤ 140737488355328 ∧ r = l ++ m := by
  unfold app' at h
  split at h
  · rename_i c; cases h; exact ⟨c.1, c.2, rfl⟩
  · cases h
theorem make_some {by_ : Nat} {n : Int} {z : α} {r : List α} (h : make' by_ n z = some r) : 0 ≤ n ∧ by_ * n.toNat ≤ 140737488355328 ∧ n ≤ 9223372036854775807 ∧ r = List.replicate n.toNat z := by
  unfold make' at h
  split at h
  · rename_i c; cases h; exact ⟨c.1, c.2.1, c.2.2, rfl⟩
  · cases h
theorem quo_some {k : IntKind} {a b c : Int} (h : quo' k a b = some c) : b ≠ 0 ∧ k.wrap (a.tdiv b) = c := by
  unfold quo' at h
  split at h
  · cases h
  · cases h; exact ⟨by assumption, rfl⟩
theorem rem_some {a b c : Int} (h : rem' a b = some c) : b ≠ 0 ∧ a.tmod b = c := by
  unfold rem' at h
  split at h
  · cases h
  · cases h; exact ⟨by assumption, rfl⟩
theorem shl_some {k : IntKind} {a b c : Int} (h : shl' k a b = some c) : 0 ≤ b ∧ b ≤ k.bits ∧ k.wrap (a * 2 ^ b.toNat) = c := by
  unfold shl' at h
  split at h
  · rename_i q; cases h; exact ⟨q.1, q.2, rfl⟩
  · cases h
theorem shr_some {k : IntKind} {a b c : Int} (h : shr' k a b = some c) : 0 ≤ b ∧ b ≤ k.bits ∧ a / 2 ^ b.toNat = c := by
  unfold shr' at h
  split at h
  · rename_i q; cases h; exact ⟨q.1, q.2, rfl⟩
  · cases h
end plain
abbrev Str := List UInt8
def bs (s : Str) : ByteArray := ⟨s.toArray⟩
theorem bs_size (s : Str) : (bs s).size = s.length := by simp [bs, ByteArray.size]
theorem bs_inj {s t : Str} : bs s = bs t ↔ s = t := by
  constructor
  · intro h
    have := congrArg (fun b : ByteArray => b.data.toList) h
    simpa [bs] using this
  · intro h; rw [h]

/-! ### How data lie in memory -/
/-- The blocks that F allows are still there, and are what they were. -/
def Same (F F' : Nat → Prop) (w w' : World) : Prop := ∀ b, F b → b < w.heap.size → F' b ∧ w'.heap[b]? = w.heap[b]?
structure Rp (α : Type) where
  sz : Nat
  rd : (Nat → Prop) → World → List Value → α → Prop
  len : ∀ {F w cs x}, rd F w cs x → cs.length = sz
  one : ∀ {F w cs x}, rd F w cs x → ∀ v ∈ cs, v.oneCell' = true
  mono : ∀ {F F' w w' cs x}, Same F F' w w' → rd F w cs x → rd F' w' cs x
section rp
variable {α β : Type} {F F' : Nat → Prop} {w w' : World}
def Rp.int (k : IntKind) : Rp Int := ⟨1, fun _ _ cs x => cs = [.int k x], fun h => by subst h; rfl, fun h => by subst h; simp [Value.oneCell'], fun _ h => h⟩
def Rp.bool : Rp Bool := ⟨1, fun _ _ cs x => cs = [.bool x], fun h => by subst h; rfl, fun h => by subst h; simp [Value.oneCell'], fun _ h => h⟩
def Rp.str : Rp Str := ⟨1, fun _ _ cs x => cs = [.string (bs x)], fun h => by subst h; rfl, fun h => by subst h; simp [Value.oneCell'], fun _ h => h⟩
def Rp.pair (a : Rp α) (b : Rp β) : Rp (α × β) :=
  ⟨a.sz + b.sz, fun F w cs x => ∃ c d, cs = c ++ d ∧ a.rd F w c x.1 ∧ b.rd F w d x.2,
   fun ⟨c, d, e, h1, h2⟩ => by subst e; simp [a.len h1, b.len h2],
   fun ⟨c, d, e, h1, h2⟩ => by subst e; intro v hv; exact (List.mem_append.1 hv).elim (a.one h1 v) (b.one h2 v),
   fun hs ⟨c, d, e, h1, h2⟩ => ⟨c, d, e, a.mono hs h1, b.mono hs h2⟩⟩
def Rp.iso (a : Rp α) (f : β → α) : Rp β := ⟨a.sz, fun F w cs x => a.rd F w cs (f x), fun h => a.len h, fun h => a.one h, fun hs h => a.mono hs h⟩
/-- Cells of elements one behind the other. -/
def rows (r : Rp α) (F : Nat → Prop) (w : World) : List Value → List α → Prop
  | cs, [] => cs = []
  | cs, x :: l => ∃ c d, cs = c ++ d ∧ r.rd F w c x ∧ rows r F w d l
theorem rows_len {r : Rp α} : ∀ {l : List α} {cs : List Value}, rows r F w cs l → cs.length = l.length * r.sz
  | [], cs, h => by unfold rows at h; subst h; simp
  | x :: l, cs, h => by
    obtain ⟨c, d, rfl, h1, h2⟩ := h
    have := rows_len h2
    simp [r.len h1, this, Nat.add_mul]; omega
theorem rows_one {r : Rp α} : ∀ {l : List α} {cs : List Value}, rows r F w cs l → ∀ v ∈ cs, v.oneCell' = true
  | [], cs, h => by unfold rows at h; subst h; simp
  | x :: l, cs, h => by
    obtain ⟨c, d, rfl, h1, h2⟩ := h
    intro v hv
    rcases List.mem_append.1 hv with h | h
    · exact r.one h1 v h
    · exact rows_one h2 v h
theorem rows_mono {r : Rp α} (hs : Same F F' w w') : ∀ {l : List α} {cs : List Value}, rows r F w cs l → rows r F' w' cs l
  | [], _, h => h
  | _ :: _, _, h => by
    obtain ⟨c, d, rfl, h1, h2⟩ := h
    exact ⟨c, d, rfl, r.mono hs h1, rows_mono hs h2⟩
theorem rows_app {r : Rp α} : ∀ {l m : List α} {cs ds : List Value}, rows r F w cs l → rows r F w ds m → rows r F w (cs ++ ds) (l ++ m)
  | [], m, cs, ds, h, k => by unfold rows at h; subst h; simpa using k
  | x :: l, m, cs, ds, h, k => by
    obtain ⟨c, d, rfl, h1, h2⟩ := h
    exact ⟨c, d ++ ds, by simp, h1, rows_app h2 k⟩
theorem rows_single {r : Rp α} {c : List Value} {x : α} (h : r.rd F w c x) : rows r F w c [x] := ⟨c, [], by simp, h, rfl⟩
theorem rows_drop {r : Rp α} : ∀ (i : Nat) {l : List α} {cs : List Value}, rows r F w cs l → rows r F w (cs.drop (i * r.sz)) (l.drop i)
  | 0, l, cs, h => by simpa using h
  | i + 1, [], cs, h => by unfold rows at h; subst h; simp [rows]
  | i + 1, x :: l, cs, h => by
    obtain ⟨c, d, rfl, h1, h2⟩ := h
    have hc := r.len h1
    rw [show (i + 1) * r.sz = c.length + i * r.sz by rw [hc, Nat.add_mul]; omega, List.drop_append, List.drop_eq_nil_of_le (by omega), List.nil_append, show c.length + i * r.sz - c.length = i * r.sz by omega]
    exact rows_drop i h2
theorem rows_take {r : Rp α} : ∀ (i : Nat) {l : List α} {cs : List Value}, rows r F w cs l → rows r F w (cs.take (i * r.sz)) (l.take i)
  | 0, l, cs, h => by simp [rows]
  | i + 1, [], cs, h => by unfold rows at h; subst h; simp [rows]
  | i + 1, x :: l, cs, h => by
    obtain ⟨c, d, rfl, h1, h2⟩ := h
    have hc := r.len h1
    refine ⟨c, d.take (i * r.sz), ?_, h1, rows_take i h2⟩
    rw [show (i + 1) * r.sz = c.length + i * r.sz by rw [hc, Nat.add_mul]; omega, List.take_append, List.take_of_length_le (by omega), show c.length + i * r.sz - c.length = i * r.sz by omega]
theorem rows_get {r : Rp α} {l : List α} {cs : List Value} {i : Nat} {x : α} (h : rows r F w cs l) (hx : l[i]? = some x) : r.rd F w ((cs.drop (i * r.sz)).take r.sz) x := by
  have h1 := rows_drop i h
  have hi := (List.getElem?_eq_some_iff.1 hx).1
  have e : l.drop i = x :: l.drop (i + 1) := by
    rw [List.drop_eq_getElem_cons hi]; congr 1; exact (List.getElem?_eq_some_iff.1 hx).2
  rw [e] at h1
  obtain ⟨c, d, hcd, h2, h3⟩ := h1
  rw [hcd, ← r.len h2, List.take_left']
  · exact h2
  · rfl
theorem rows_set {r : Rp α} {l : List α} {cs c : List Value} {i : Nat} {x : α} (h : rows r F w cs l) (hi : i < l.length) (hc : r.rd F w c x) : rows r F w (splice cs (i * r.sz) c) (l.set i x) := by
  have h1 := rows_take i h
  have h2 := rows_drop (i + 1) h
  have e : l.set i x = l.take i ++ ([x] ++ l.drop (i + 1)) := by rw [List.set_eq_take_append_cons_drop, if_pos hi]; simp
  rw [e]
  unfold splice
  rw [List.append_assoc]
  refine rows_app h1 (rows_app (rows_single hc) ?_)
  rw [r.len hc, show i * r.sz + r.sz = (i + 1) * r.sz by rw [Nat.add_mul]; omega]
  exact h2
def ints (k : IntKind) (l : List Int) : List Value := l.map (Value.int k)
theorem rows_ints {k : IntKind} : ∀ {l : List Int} {cs : List Value}, rows (Rp.int k) F w cs l ↔ cs = ints k l
  | [], cs => Iff.rfl
  | x :: l, cs => by
    constructor
    · rintro ⟨c, d, rfl, h1, h2⟩
      have h1 : c = [.int k x] := h1
      rw [h1, rows_ints.1 h2]; rfl
    · rintro rfl
      exact ⟨[.int k x], ints k l, rfl, rfl, rows_ints.2 rfl⟩
/-- An array. -/
def Rp.arr (n : Nat) (r : Rp α) : Rp (List α) :=
  ⟨n * r.sz, fun F w cs l => l.length = n ∧ rows r F w cs l, fun ⟨h1, h2⟩ => by rw [rows_len h2, h1], fun ⟨_, h2⟩ => rows_one h2, fun hs ⟨h1, h2⟩ => ⟨h1, rows_mono hs h2⟩⟩
/-- A slice. -/
def SlF (r : Rp α) (F : Nat → Prop) (w : World) (v : Value) (l : List α) : Prop :=
  ∃ xs, rows r F w xs l ∧ SlR w v r.sz l.length xs ∧ (0 < l.length → ∀ b, sblk v = some b → F b ∧ b < w.heap.size)
theorem SlR.same {s n : Nat} {v : Value} {xs : List Value} (h : SlR w v s n xs) (hb : 0 < n → ∀ b, sblk v = some b → w'.heap[b]? = w.heap[b]?) : SlR w' v s n xs := by
  obtain ⟨hl, h⟩ := h
  refine ⟨hl, ?_⟩
  rcases h with h | ⟨a, cap, rfl, h1, h2, h3, hc⟩
  · exact .inl h
  · refine .inr ⟨a, cap, rfl, h1, h2, h3, ?_⟩
    rcases Nat.eq_zero_or_pos n with h0 | h0
    · intro i v hv
      have := (List.getElem?_eq_some_iff.1 hv).1
      rw [hl, h0] at this; omega
    · intro i v hv
      have h4 := hb h0 a.block rfl
      have := hc i v hv
      rw [World.cell?_of_block (w := w) (by rw [Addr.add_block]; exact h4)]
      exact this
theorem SlF.mono {r : Rp α} {v : Value} {l : List α} (hs : Same F F' w w') (h : SlF r F w v l) : SlF r F' w' v l := by
  obtain ⟨xs, h1, h2, h3⟩ := h
  refine ⟨xs, rows_mono hs h1, SlR.same h2 fun h0 b hb => (hs b (h3 h0 b hb).1 (h3 h0 b hb).2).2, fun h0 b hb => ?_⟩
  have q := h3 h0 b hb
  have p := hs b q.1 q.2
  refine ⟨p.1, ?_⟩
  have e : w.heap[b]? = some w.heap[b] := Array.getElem?_eq_getElem q.2
  rw [e] at p
  exact (Array.getElem?_eq_some_iff.1 p.2).1
theorem SlR.one {s n : Nat} {v : Value} {xs : List Value} (h : SlR w v s n xs) : v.oneCell' = true := by
  obtain ⟨a, c, rfl⟩ := h.shape; rfl
def Rp.sl (r : Rp α) : Rp (List α) :=
  ⟨1, fun F w cs l => ∃ v, cs = [v] ∧ SlF r F w v l, fun ⟨v, e, _⟩ => by subst e; rfl, fun ⟨v, e, _, _, h2, _⟩ => by subst e; simpa using SlR.one h2, fun hs ⟨v, e, h⟩ => ⟨v, e, SlF.mono hs h⟩⟩
theorem SlF.nil {r : Rp α} : SlF r F w (.slice none 0 0) [] := ⟨[], rfl, SlR.nil, fun h => by simp at h⟩
theorem SlF.len {r : Rp α} {v : Value} {l : List α} (h : SlF r F w v l) : ∃ a c, v = .slice a l.length c := h.choose_spec.2.1.shape
end rp

/-! ### What a function owns and what it reads -/
structure Fz where
  p : (Nat → Prop) → World → Prop
  mono : ∀ {F F' w w'}, Same F F' w w' → p F w → p F' w'
/-- A slice that is only read. -/
def Fz.sl {α : Type} (r : Rp α) (v : Value) (l : List α) : Fz := ⟨fun F w => SlF r F w v l, fun hs h => SlF.mono hs h⟩
theorem Cells.same {F F' : Nat → Prop} {w w' : World} {b o : Nat} {cs : List Value} (hs : Same F F' w w') (h1 : F b) (h2 : b < w.heap.size) (h : Cells w ⟨b, o, none⟩ cs) : F' b ∧ b < w'.heap.size ∧ Cells w' ⟨b, o, none⟩ cs := by
  have p := hs b h1 h2
  refine ⟨p.1, ?_, fun i v hv => ?_⟩
  · have e : w.heap[b]? = some w.heap[b] := Array.getElem?_eq_getElem h2
    rw [e] at p
    exact (Array.getElem?_eq_some_iff.1 p.2).1
  · rw [World.cell?_of_block (w := w) (by rw [Addr.add_block]; exact p.2)]
    exact h i v hv
/-- Cells that are only read. -/
def Fz.at (b o : Nat) (cs : List Value) : Fz := ⟨fun F w => F b ∧ b < w.heap.size ∧ Cells w ⟨b, o, none⟩ cs, fun hs ⟨h1, h2, h3⟩ => Cells.same hs h1 h2 h3⟩
inductive Th : Type 1 where
  | blk (b : Nat) (cs : List Value) (T : TypeId)
  | arr {α : Type} (r : Rp α) (b : Nat) (l : List α) (T : TypeId)
  | own {α : Type} (r : Rp α) (v : Value) (e : TypeId) (l : List α)
  | fz (p : Fz)
def Th.blocks : Th → List Nat
  | .blk b _ _ => [b]
  | .arr _ b _ _ => [b]
  | .own _ v _ _ => ob v
  | .fz _ => []
def Th.holds (F : Nat → Prop) (w : World) : Th → Prop
  | .blk b cs T => Blk w b cs T
  | .arr r b l T => ∃ xs, rows r F w xs l ∧ Blk w b xs T
  | .own r v e l => ∃ xs, rows r F w xs l ∧ w.ownsRow 0 e r.sz v l.length xs
  | .fz p => p.p F w
def bks (l : List Th) : List Nat := l.flatMap Th.blocks
def frees (O : List Nat) (l : List Th) : Nat → Prop := fun b => b ∉ O ∧ b ∉ bks l
structure Hd (O : List Nat) (w0 w : World) (S : List Nat) (l : List Th) : Prop where
  only : Only S w0 w
  holds : ∀ it ∈ l, it.holds (frees O l) w
  own : ∀ it ∈ l, ∀ b ∈ it.blocks, (w0.heap.size ≤ b ∨ b ∈ S) ∧ b < w.heap.size
  nd : (bks l).Nodup
  fo : ∀ b ∈ O, b < w0.heap.size ∧ b ∉ S
theorem blk_same {w w' : World} {b : Nat} {cs : List Value} {T : TypeId} (h : Blk w b cs T) (e : w'.heap[b]? = w.heap[b]?) : Blk w' b cs T := by unfold Blk at *; rw [e]; exact h
theorem owns_same {w w' : World} {B : Nat} {v : Value} {e s n : Nat} {xs : List Value} (h : w.ownsRow B e s v n xs) (hb : ∀ b ∈ ob v, w'.heap[b]? = w.heap[b]?) : w'.ownsRow B e s v n xs := by
  refine ⟨h.1, ?_⟩
  rcases h.2 with hn | ⟨g, cap, cur, rfl, h1, hg, rest⟩
  · exact .inl hn
  · refine .inr ⟨g, cap, cur, rfl, h1, ?_, rest⟩
    rw [hb g (by simp [ob, sblk])]
    exact hg
theorem Th.same {F F' : Nat → Prop} {w w' : World} {it : Th} (h : it.holds F w) (hs : Same F F' w w') (hb : ∀ b ∈ it.blocks, w'.heap[b]? = w.heap[b]?) : it.holds F' w' := by
  cases it with
  | blk b cs T => exact blk_same h (hb b (by simp [Th.blocks]))
  | arr r b l T => obtain ⟨xs, h1, h2⟩ := h; exact ⟨xs, rows_mono hs h1, blk_same h2 (hb b (by simp [Th.blocks]))⟩
  | own r v e l => obtain ⟨xs, h1, h2⟩ := h; exact ⟨xs, rows_mono hs h1, owns_same h2 hb⟩
  | fz p => exact p.mono hs h
theorem mem_bks {l : List Th} {b : Nat} : b ∈ bks l ↔ ∃ it ∈ l, b ∈ it.blocks := List.mem_flatMap
theorem bks_app (l m : List Th) : bks (l ++ m) = bks l ++ bks m := by simp [bks]
theorem bks_nodup {l : List Th} : (bks l).Nodup ↔ (∀ it ∈ l, it.blocks.Nodup) ∧ l.Pairwise fun a b => ∀ x ∈ a.blocks, ∀ y ∈ b.blocks, x ≠ y := by
  unfold bks List.Nodup; exact List.pairwise_flatMap
section sep
variable {O S : List Nat} {w0 w w' : World} {l : List Th} {i : Nat}
theorem Hd.item (H : Hd O w0 w S l) {it : Th} (hi : l[i]? = some it) : it.holds (frees O l) w := H.holds it (List.mem_of_getElem? hi)
theorem Hd.lt (H : Hd O w0 w S l) {b : Nat} (hb : b ∈ bks l) : b < w.heap.size := by
  obtain ⟨it, hm, hb⟩ := mem_bks.1 hb; exact (H.own it hm b hb).2
theorem only_nil {w w' : World} (ho : Only [] w w') {b : Nat} (hb : b < w.heap.size) : w'.heap[b]? = w.heap[b]? := ho.block b hb (by simp)
/-- What keeps all blocks keeps all. -/
theorem Hd.step (H : Hd O w0 w S l) (ho : Only [] w w') : Hd O w0 w' S l :=
  ⟨H.only.trans (ho.mono (by simp)), fun it hm => Th.same (H.holds it hm) (fun b hb hl => ⟨hb, only_nil ho hl⟩) (fun b hb => only_nil ho (H.own it hm b hb).2),
   fun it hm b hb => ⟨(H.own it hm b hb).1, Nat.lt_of_lt_of_le (H.own it hm b hb).2 ho.size⟩, H.nd, H.fo⟩
theorem Hd.sees (H : Hd O w0 w S l) (ho : Sees w w') : Hd O w0 w' S l := H.step (Only.of_below ho)
/-- Something is added: new, or only read. -/
theorem Hd.add (H : Hd O w0 w S l) (ho : Only [] w w') {it : Th} (hh : Same (frees O l) (frees O (l ++ [it])) w w' → it.holds (frees O (l ++ [it])) w') (hb : ∀ b ∈ it.blocks, w.heap.size ≤ b ∧ b < w'.heap.size) (hn : it.blocks.Nodup) : Hd O w0 w' S (l ++ [it]) := by
  have hs : Same (frees O l) (frees O (l ++ [it])) w w' := by
    intro b hb' hl
    refine ⟨⟨hb'.1, ?_⟩, only_nil ho hl⟩
    rw [bks_app, List.mem_append]
    rintro (h | h)
    · exact hb'.2 h
    · have := (hb b (by simpa [bks] using h)).1; omega
  refine ⟨H.only.trans (ho.mono (by simp)), ?_, ?_, ?_, H.fo⟩
  · intro x hx
    rcases List.mem_append.1 hx with hx | hx
    · exact Th.same (H.holds x hx) hs (fun b hb => only_nil ho (H.own x hx b hb).2)
    · obtain rfl := List.mem_singleton.1 hx; exact hh hs
  · intro x hx b hbx
    rcases List.mem_append.1 hx with hx | hx
    · exact ⟨(H.own x hx b hbx).1, Nat.lt_of_lt_of_le (H.own x hx b hbx).2 ho.size⟩
    · obtain rfl := List.mem_singleton.1 hx
      exact ⟨.inl (Nat.le_trans H.only.size (hb b hbx).1), (hb b hbx).2⟩
  · rw [bks_app, List.nodup_append]
    refine ⟨H.nd, by simpa [bks] using hn, ?_⟩
    intro a ha c hc
    have := H.lt ha
    have := (hb c (by simpa [bks] using hc)).1
    omega
theorem Hd.fz (H : Hd O w0 w S l) (p : Fz) (hp : p.p (frees O l) w) : Hd O w0 w S (l ++ [.fz p]) :=
  H.add (Only.refl [] w) (fun hs => p.mono hs hp) (by simp [Th.blocks]) (by simp [Th.blocks])
theorem Hd.alloc {b : Nat} {cs : List Value} {T : TypeId} (H : Hd O w0 w S l) (ha : Al w w' b cs T) : Hd O w0 w' S (l ++ [.blk b cs T]) :=
  H.add ha.only (fun _ => ha.blk) (by intro c hc; obtain rfl := List.mem_singleton.1 hc; exact ⟨Nat.le_of_eq ha.at_.symm, by rw [ha.at_, ha.size]; omega⟩) (by simp [Th.blocks])
theorem ob_nd (v : Value) : (ob v).Nodup := by unfold ob; cases sblk v <;> simp
/-- One of the things turns into another. -/
theorem Hd.turn (H : Hd O w0 w S l) {it it' : Th} (hi : l[i]? = some it) (ho : Only it.blocks w w') (hh : Same (frees O l) (frees O (l.set i it')) w w' → it'.holds (frees O (l.set i it')) w')
    (hb : ∀ b ∈ it'.blocks, (b ∈ it.blocks ∨ w.heap.size ≤ b) ∧ b < w'.heap.size) (hn : it'.blocks.Nodup) : Hd O w0 w' S (l.set i it') := by
  have hil := (List.getElem?_eq_some_iff.1 hi).1
  have e1 : l = l.take i ++ it :: l.drop (i + 1) := by
    have := List.take_append_drop i l
    rw [List.drop_eq_getElem_cons hil, (List.getElem?_eq_some_iff.1 hi).2] at this
    exact this.symm
  have e2 : l.set i it' = l.take i ++ it' :: l.drop (i + 1) := by rw [List.set_eq_take_append_cons_drop, if_pos hil]
  have hnd := H.nd
  rw [bks_nodup] at hnd
  have hp := hnd.2
  rw [e1, List.pairwise_append, List.pairwise_cons] at hp
  obtain ⟨p1, ⟨p2, p3⟩, p4⟩ := hp
  have oth : ∀ x ∈ l.take i ++ l.drop (i + 1), (∀ b ∈ x.blocks, b ∉ it.blocks ∧ b < w.heap.size) ∧ x ∈ l := by
    intro x hx
    have hxl : x ∈ l := by
      rcases List.mem_append.1 hx with h | h
      · exact List.mem_of_mem_take h
      · exact List.mem_of_mem_drop h
    refine ⟨fun b hb => ⟨fun hbi => ?_, (H.own x hxl b hb).2⟩, hxl⟩
    rcases List.mem_append.1 hx with h | h
    · exact p4 x h it List.mem_cons_self b hb b hbi rfl
    · exact p2 x h b hbi b hb rfl
  have mem2 : ∀ x, x ∈ l.set i it' ↔ x = it' ∨ x ∈ l.take i ++ l.drop (i + 1) := by
    intro x; rw [e2]; simp only [List.mem_append, List.mem_cons]
    constructor
    · rintro (h | h | h)
      · exact .inr (.inl h)
      · exact .inl h
      · exact .inr (.inr h)
    · rintro (h | h | h)
      · exact .inr (.inl h)
      · exact .inl h
      · exact .inr (.inr h)
  have itm : it ∈ l := List.mem_of_getElem? hi
  have same : Same (frees O l) (frees O (l.set i it')) w w' := by
    intro b hbf hl
    refine ⟨⟨hbf.1, fun hm => ?_⟩, ho.block b hl (fun h => hbf.2 (mem_bks.2 ⟨it, itm, h⟩))⟩
    obtain ⟨x, hx, hbx⟩ := mem_bks.1 hm
    rcases (mem2 x).1 hx with rfl | hx
    · rcases (hb b hbx).1 with h | h
      · exact hbf.2 (mem_bks.2 ⟨it, itm, h⟩)
      · omega
    · exact hbf.2 (mem_bks.2 ⟨x, (oth x hx).2, hbx⟩)
  refine ⟨⟨ho.os.trans H.only.os, ho.tape.trans H.only.tape, ho.output.trans H.only.output, Nat.le_trans H.only.size ho.size, fun k hk hks => ?_⟩, ?_, ?_, ?_, H.fo⟩
  · have hkw := Nat.lt_of_lt_of_le hk H.only.size
    rw [ho.block k hkw (fun h => ?_), H.only.block k hk hks]
    rcases (H.own it itm k h).1 with h | h
    · omega
    · exact hks h
  · intro x hx
    rcases (mem2 x).1 hx with rfl | hx
    · exact hh same
    · exact Th.same (H.holds x (oth x hx).2) same (fun b hb' => ho.block b ((oth x hx).1 b hb').2 ((oth x hx).1 b hb').1)
  · intro x hx b hbx
    rcases (mem2 x).1 hx with rfl | hx
    · refine ⟨?_, (hb b hbx).2⟩
      rcases (hb b hbx).1 with h | h
      · exact (H.own it itm b h).1
      · exact .inl (Nat.le_trans H.only.size h)
    · exact ⟨(H.own x (oth x hx).2 b hbx).1, Nat.lt_of_lt_of_le ((oth x hx).1 b hbx).2 ho.size⟩
  · rw [bks_nodup]
    refine ⟨fun x hx => ?_, ?_⟩
    · rcases (mem2 x).1 hx with rfl | hx
      · exact hn
      · exact hnd.1 x (oth x hx).2
    · rw [e2, List.pairwise_append, List.pairwise_cons]
      have far : ∀ x ∈ l.take i ++ l.drop (i + 1), ∀ a ∈ x.blocks, ∀ c ∈ it'.blocks, a ≠ c := by
        intro x hx a ha c hc e
        subst e
        rcases (hb a hc).1 with h | h
        · exact ((oth x hx).1 a ha).1 h
        · have := ((oth x hx).1 a ha).2; omega
      refine ⟨p1, ⟨fun x hx a ha c hc e => far x (List.mem_append_right _ hx) c hc a ha e.symm, p3⟩, ?_⟩
      intro x hx y hy
      rcases List.mem_cons.1 hy with rfl | hy
      · exact far x (List.mem_append_left _ hx)
      · exact p4 x hx y (List.mem_cons_of_mem _ hy)
theorem Hd.wr {b : Nat} {cs cs' : List Value} {T : TypeId} (H : Hd O w0 w S l) (hi : l[i]? = some (.blk b cs T)) (hw : Wr w w' b cs' T) : Hd O w0 w' S (l.set i (.blk b cs' T)) :=
  H.turn hi hw.only (fun _ => hw.blk) (by intro c hc; obtain rfl := List.mem_singleton.1 hc; exact ⟨.inl (by simp [Th.blocks]), hw.blk.lt⟩) (by simp [Th.blocks])
theorem Hd.conv {b : Nat} {cs cs' : List Value} {T : TypeId} (H : Hd O w0 w S l) (hi : l[i]? = some (.blk b cs T)) (e : cs = cs') : Hd O w0 w S (l.set i (.blk b cs' T)) :=
  H.turn hi (Only.refl _ w) (fun _ => by subst e; exact H.item hi) (by intro c hc; obtain rfl := List.mem_singleton.1 hc; exact ⟨.inl (by simp [Th.blocks]), Blk.lt (H.item hi)⟩) (by simp [Th.blocks])
theorem Hd.apart (H : Hd O w0 w S l) {j : Nat} {it x : Th} (hi : l[i]? = some it) (hj : l[j]? = some x) (hn : i ≠ j) : ∀ b ∈ it.blocks, b ∉ x.blocks := by
  have hp := (bks_nodup.1 H.nd).2
  rw [List.pairwise_iff_getElem] at hp
  obtain ⟨li, hi⟩ := List.getElem?_eq_some_iff.1 hi
  obtain ⟨lj, hj⟩ := List.getElem?_eq_some_iff.1 hj
  intro b hb hb'
  rcases Nat.lt_or_gt_of_ne hn with h | h
  · exact hp i j li lj h b (hi ▸ hb) b (hj ▸ hb') rfl
  · exact hp j i lj li h b (hj ▸ hb') b (hi ▸ hb) rfl
theorem Hd.notO (H : Hd O w0 w S l) {it : Th} (hm : it ∈ l) {b : Nat} (hb : b ∈ it.blocks) : b ∉ O := by
  intro ho
  have := H.fo b ho
  rcases (H.own it hm b hb).1 with h | h
  · omega
  · exact this.2 h
theorem bks_set {l : List Th} {i : Nat} {it' : Th} {b : Nat} (h : b ∈ bks (l.set i it')) : b ∈ it'.blocks ∨ ∃ j x, j ≠ i ∧ l[j]? = some x ∧ b ∈ x.blocks := by
  obtain ⟨x, hx, hb⟩ := mem_bks.1 h
  obtain ⟨j, hj⟩ := List.getElem?_of_mem hx
  rw [List.getElem?_set] at hj
  split at hj
  · split at hj
    · cases hj; exact .inl hb
    · cases hj
  · rename_i hne; exact .inr ⟨j, x, fun e => hne e.symm, hj, hb⟩
/-- What is own is from now on only read. -/
theorem Hd.freeze {α : Type} {r : Rp α} {v : Value} {e : TypeId} {xl : List α} (H : Hd O w0 w S l) (hi : l[i]? = some (.own r v e xl)) : Hd O w0 w S (l.set i (.fz (.sl r v xl))) := by
  refine H.turn hi (Only.refl _ w) (fun hs => ?_) (by simp [Th.blocks]) (by simp [Th.blocks])
  obtain ⟨xs, h1, h2⟩ := H.item hi
  refine ⟨xs, rows_mono hs h1, owns_slr h2, fun h0 b hb => ?_⟩
  have hbm : b ∈ (Th.own r v e xl).blocks := ob_mem.2 hb
  refine ⟨⟨H.notO (List.mem_of_getElem? hi) hbm, fun hm => ?_⟩, (H.own _ (List.mem_of_getElem? hi) b hbm).2⟩
  rcases bks_set hm with h | ⟨j, x, hj, hx, hbx⟩
  · simp [Th.blocks] at h
  · exact H.apart hx hi hj b hbx hbm
def pick (idx : List Nat) (l : List Th) : List Th := idx.filterMap (fun i => l[i]?)
theorem mem_pick {idx : List Nat} {x : Th} : x ∈ pick idx l ↔ ∃ i ∈ idx, l[i]? = some x := by unfold pick; rw [List.mem_filterMap]
theorem bks_pick {idx : List Nat} {b : Nat} (h : b ∈ bks (pick idx l)) : ∃ i ∈ idx, ∃ x, l[i]? = some x ∧ b ∈ x.blocks := by
  obtain ⟨x, hx, hb⟩ := mem_bks.1 h
  obtain ⟨i, hi, hx⟩ := mem_pick.1 hx
  exact ⟨i, hi, x, hx, hb⟩
theorem bks_pick_sub {idx : List Nat} {b : Nat} (h : b ∈ bks (pick idx l)) : b ∈ bks l := by
  obtain ⟨i, _, x, hx, hb⟩ := bks_pick h
  exact mem_bks.2 ⟨x, List.mem_of_getElem? hx, hb⟩
theorem Hd.pick_nd (H : Hd O w0 w S l) {idx : List Nat} (hn : idx.Nodup) : (bks (pick idx l)).Nodup := by
  rw [bks_nodup]
  refine ⟨fun x hx => ?_, ?_⟩
  · obtain ⟨i, _, hx⟩ := mem_pick.1 hx
    exact (bks_nodup.1 H.nd).1 x (List.mem_of_getElem? hx)
  · unfold pick
    rw [List.pairwise_filterMap]
    exact hn.imp fun {i j} hij x hx y hy a ha c hc e => by subst e; exact H.apart hx hy hij a ha hc
theorem Hd.pick (H : Hd O w0 w S l) (idx : List Nat) (hn : idx.Nodup) : Hd O w0 w S (pick idx l) := by
  refine ⟨H.only, fun x hx => ?_, fun x hx b hb => ?_, H.pick_nd hn, H.fo⟩
  · obtain ⟨i, _, hx⟩ := mem_pick.1 hx
    exact Th.same (H.item hx) (fun b hb _ => ⟨⟨hb.1, fun h => hb.2 (bks_pick_sub h)⟩, rfl⟩) (fun _ _ => rfl)
  · obtain ⟨i, _, hx⟩ := mem_pick.1 hx
    exact H.own x (List.mem_of_getElem? hx) b hb
def restI (idx : List Nat) (n : Nat) : List Nat := (List.range n).filter fun i => !idx.contains i
def rest (idx : List Nat) (l : List Th) : List Th := pick (restI idx l.length) l
theorem restI_nd (idx : List Nat) (n : Nat) : (restI idx n).Nodup := List.nodup_range.filter _
theorem mem_restI {idx : List Nat} {n i : Nat} (h : i ∈ restI idx n) : i ∉ idx := by
  unfold restI at h
  rw [List.mem_filter] at h
  simpa using h.2
def fzAt (l : List Th) (i : Nat) : Bool := match l[i]? with
  | some (.fz _) => true
  | _ => false
theorem fzAt_blocks {l : List Th} {x : Th} (h : fzAt l i = true) (hx : l[i]? = some x) : x.blocks = [] := by
  unfold fzAt at h
  rw [hx] at h
  cases x <;> simp_all [Th.blocks]
theorem Hd.rest_apart (H : Hd O w0 w S l) {ow fs : List Nat} (hf : fs.all (fzAt l) = true) {b : Nat} (hb : b ∈ bks (rest ow l)) : b ∉ bks (Go.Lf.pick (ow ++ fs) l) := by
  intro h
  obtain ⟨j, hj, y, hy, hby⟩ := bks_pick hb
  obtain ⟨i, hi, x, hx, hbx⟩ := bks_pick h
  rcases List.mem_append.1 hi with hi | hi
  · exact H.apart hx hy (fun e => mem_restI hj (e ▸ hi)) b hbx hby
  · rw [fzAt_blocks (List.all_eq_true.1 hf i hi) hx] at hbx; cases hbx
/-- What a call is handed: own things (ow) and things that are only read (fs). -/
theorem Hd.enter (H : Hd O w0 w S l) (ow fs : List Nat) (hn : (ow ++ fs).Nodup) (hf : fs.all (fzAt l) = true) :
    Hd (O ++ bks (rest ow l)) w w (bks (Go.Lf.pick (ow ++ fs) l)) (Go.Lf.pick (ow ++ fs) l) := by
  refine ⟨Only.refl _ w, fun x hx => ?_, fun x hx b hb => ⟨.inr (mem_bks.2 ⟨x, hx, hb⟩), ?_⟩, H.pick_nd hn, fun b hb => ?_⟩
  · obtain ⟨i, _, hx⟩ := mem_pick.1 hx
    refine Th.same (H.item hx) (fun b hb _ => ⟨⟨fun h => ?_, fun h => hb.2 (bks_pick_sub h)⟩, rfl⟩) (fun _ _ => rfl)
    rcases List.mem_append.1 h with h | h
    · exact hb.1 h
    · exact hb.2 (bks_pick_sub h)
  · obtain ⟨i, _, hx⟩ := mem_pick.1 hx
    exact (H.own x (List.mem_of_getElem? hx) b hb).2
  · rcases List.mem_append.1 hb with h | h
    · have := H.fo b h
      refine ⟨Nat.lt_of_lt_of_le this.1 H.only.size, fun hm => ?_⟩
      obtain ⟨x, hx, hbx⟩ := mem_bks.1 (bks_pick_sub hm)
      exact H.notO hx hbx h
    · exact ⟨H.lt (bks_pick_sub h), H.rest_apart hf h⟩
theorem Hd.back {l2 : List Th} (H : Hd O w0 w S l) (ow fs : List Nat) (hf : fs.all (fzAt l) = true)
    (G : Hd (O ++ bks (rest ow l)) w w' (bks (Go.Lf.pick (ow ++ fs) l)) l2) : Hd O w0 w' S (rest ow l ++ l2) := by
  have far : ∀ b ∈ bks (rest ow l), b ∉ bks l2 := by
    intro b hb h
    obtain ⟨x, hx, hbx⟩ := mem_bks.1 h
    rcases (G.own x hx b hbx).1 with h | h
    · have := H.lt (bks_pick_sub hb); omega
    · exact H.rest_apart hf hb h
  have same : Same (frees O l) (frees O (rest ow l ++ l2)) w w' := by
    intro b hb hl
    refine ⟨⟨hb.1, fun hm => ?_⟩, G.only.block b hl (fun h => hb.2 (bks_pick_sub h))⟩
    rw [bks_app, List.mem_append] at hm
    rcases hm with h | h
    · exact hb.2 (bks_pick_sub h)
    · obtain ⟨x, hx, hbx⟩ := mem_bks.1 h
      rcases (G.own x hx b hbx).1 with h | h
      · omega
      · exact hb.2 (bks_pick_sub h)
  refine ⟨⟨G.only.os.trans H.only.os, G.only.tape.trans H.only.tape, G.only.output.trans H.only.output, Nat.le_trans H.only.size G.only.size, fun k hk hks => ?_⟩, fun x hx => ?_, fun x hx b hb => ?_, ?_, H.fo⟩
  · rw [G.only.block k (Nat.lt_of_lt_of_le hk H.only.size) (fun h => ?_), H.only.block k hk hks]
    obtain ⟨x, hx, hbx⟩ := mem_bks.1 (bks_pick_sub h)
    rcases (H.own x hx k hbx).1 with h | h
    · omega
    · exact hks h
  · rcases List.mem_append.1 hx with h | h
    · obtain ⟨i, hi, hxi⟩ := mem_pick.1 h
      refine Th.same (H.item hxi) same (fun b hb => G.only.block b (H.own x (List.mem_of_getElem? hxi) b hb).2 (H.rest_apart hf (mem_bks.2 ⟨x, h, hb⟩)))
    · refine Th.same (G.holds x h) (fun b hb _ => ⟨⟨fun ho => hb.1 (List.mem_append_left _ ho), fun hm => ?_⟩, rfl⟩) (fun _ _ => rfl)
      rw [bks_app, List.mem_append] at hm
      rcases hm with hm | hm
      · exact hb.1 (List.mem_append_right _ hm)
      · exact hb.2 hm
  · rcases List.mem_append.1 hx with h | h
    · obtain ⟨i, hi, hxi⟩ := mem_pick.1 h
      have := H.own x (List.mem_of_getElem? hxi) b hb
      exact ⟨this.1, Nat.lt_of_lt_of_le this.2 G.only.size⟩
    · have := G.own x h b hb
      refine ⟨?_, this.2⟩
      rcases this.1 with h | h
      · exact .inl (Nat.le_trans H.only.size h)
      · obtain ⟨y, hy, hby⟩ := mem_bks.1 (bks_pick_sub h)
        exact (H.own y hy b hby).1
  · rw [bks_app, List.nodup_append]
    exact ⟨H.pick_nd (restI_nd _ _), G.nd, fun a ha c hc e => far a ha (e ▸ hc)⟩
theorem pick_all : ∀ (l pre : List Th), (List.range' pre.length l.length).filterMap (fun i => (pre ++ l)[i]?) = l
  | [], pre => by simp
  | x :: l, pre => by
    rw [List.length_cons, List.range'_succ, List.filterMap_cons]
    have h : (pre ++ x :: l)[pre.length]? = some x := by simp
    rw [h]
    have ih := pick_all l (pre ++ [x])
    simp only [List.length_append, List.length_cons, List.length_nil, Nat.zero_add, List.append_assoc, List.singleton_append] at ih
    simp only [ih]
theorem rest_nil (l : List Th) : rest [] l = l := by
  have h : restI [] l.length = List.range' 0 l.length := by unfold restI; rw [List.range_eq_range', List.filter_eq_self]; simp
  unfold rest Go.Lf.pick
  rw [h]
  exact pick_all l []
/-- Behind a call to which nothing own was handed. -/
theorem Hd.back1 {l2 : List Th} (H : Hd O w0 w S l) (fs : List Nat) (hf : fs.all (fzAt l) = true)
    (G : Hd (O ++ bks (rest [] l)) w w' (bks (Go.Lf.pick ([] ++ fs) l)) l2) : Hd O w0 w' S (l ++ l2) := by
  have := H.back [] fs hf G
  rwa [rest_nil] at this
end sep
end Go.Lf
