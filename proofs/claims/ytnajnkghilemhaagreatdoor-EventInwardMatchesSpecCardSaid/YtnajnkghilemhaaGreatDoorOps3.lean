/- Operations that make or change memory; arrays as values; comparisons of arrays and texts. -/
import Derived.Test.YtnajnkghilemhaaGreatDoorSep
import Derived.DeepKeys
import Derived.Laws.MakeOwn
import Derived.Laws.StructEq
import Derived.Laws.BytesArg
namespace Go.OB
open Go.RowKit

section
variable {P : Program} {N : Nat} {ops : Array Oper} {κ : List Kd} {K : Env → World → Prop} {Q : Exit → Env → World → Prop} {k : Nat} {rest : List Oper} {ρ : Env} {w : World} {v : Value} {d : Nat} {op : Op} {ty : TypeId} {pos : String} {af : Array Edge} {g : Option (Nat × Bool)}

theorem yX {R : Value → World → Prop} (hw : wantE N ops ρ ⟨some d, op, ty, pos, af, g⟩ = true) (hd : Nat.blt d N = true) (h : ∃ v w', Do P ⟨some d, op, ty, pos, af, g⟩ ρ w v w' ∧ R v w')
    (k : ∀ v w', R v w' → RL P N ops Q rest (upd ρ d v) w') : RL P N ops Q (⟨some d, op, ty, pos, af, g⟩ :: rest) ρ w := by
  obtain ⟨v, w', h1, h2⟩ := h; exact RL_do hw hd h1 (k v w' h2)
theorem yN {R : World → Prop} (hw : wantE N ops ρ ⟨none, op, ty, pos, af, g⟩ = true) (h : ∃ w', DoU P ⟨none, op, ty, pos, af, g⟩ ρ w w' ∧ R w')
    (k : ∀ w', R w' → RL P N ops Q rest ρ w') : RL P N ops Q (⟨none, op, ty, pos, af, g⟩ :: rest) ρ w := by
  obtain ⟨w', h1, h2⟩ := h; exact RL_doU hw h1 (k w' h2)
theorem XL_ex {R : World → Value → World → Prop} (hk : kdOf κ k = .eff) (hw : wantE N ops ρ ⟨some d, op, ty, pos, af, g⟩ = true) (hd : Nat.blt d N = true) (h : ∀ w1, Sees w w1 → ∃ v w', Do P ⟨some d, op, ty, pos, af, g⟩ ρ w1 v w' ∧ R w1 v w')
    (n : ∀ w1 v w', Sees w w1 → R w1 v w' → XL P N ops κ K (k + 1) rest (upd ρ d v) w') : XL P N ops κ K k (⟨some d, op, ty, pos, af, g⟩ :: rest) ρ w :=
  XL_eff hk hw hd fun w1 h1 => by obtain ⟨v, w', h2, h3⟩ := h w1 h1; exact ⟨v, w', h2, n w1 v w' h1 h3⟩
theorem XL_exU {R : World → World → Prop} (hk : kdOf κ k = .eff) (hw : wantE N ops ρ ⟨none, op, ty, pos, af, g⟩ = true) (h : ∀ w1, Sees w w1 → ∃ w', DoU P ⟨none, op, ty, pos, af, g⟩ ρ w1 w' ∧ R w1 w')
    (n : ∀ w1 w', Sees w w1 → R w1 w' → XL P N ops κ K (k + 1) rest ρ w') : XL P N ops κ K k (⟨none, op, ty, pos, af, g⟩ :: rest) ρ w :=
  XL_effU hk hw fun w1 h1 => by obtain ⟨w', h2, h3⟩ := h w1 h1; exact ⟨w', h2, n w1 w' h1 h3⟩
end

section
variable {P : Program} {ρ : Env} {w : World} {d : Option Tmp} {x y z : Operand} {t u ty e : TypeId} {pos : String} {af : Array Edge} {g : Option (Nat × Bool)}
variable {v : Value} {b o i j m n c s : Nat} {k k' : IntKind} {q : Int} {cs cs' xs ys : List Value} {T : TypeId}

theorem Ex_alloc (hz : Zero P t cs) : ∃ v w', Do P ⟨d, .alloc t, ty, pos, af, g⟩ ρ w v w' ∧ ∃ b, v = .pointer (some ⟨b, 0, none⟩) ∧ Al w w' b cs t := by
  refine ⟨.pointer (some ⟨w.heap.size, 0, none⟩), w.alloc (.cells cs.toArray t), ?_, _, rfl, Al.mk' w cs t⟩
  unfold Zero at hz
  cases hi : P.info? t with
  | none => rw [hi] at hz; cases hz
  | some inf =>
    rw [hi] at hz
    cases hzz : inf.zero with
    | none => simp [hzz] at hz
    | some zv =>
      simp [hzz] at hz
      unfold Do
      simp [execOp, Instr.alloc, zeroValue, typeInfo, hi, hzz, newVar, newRow, newObj, Sem.run, ← hz]
theorem Ex_box (hx : ev ρ x = .agg cs.toArray) : ∃ v w', Do P ⟨d, .box t x, ty, pos, af, g⟩ ρ w v w' ∧ ∃ b, v = .pointer (some ⟨b, 0, none⟩) ∧ Al w w' b cs t := by
  refine ⟨.pointer (some ⟨w.heap.size, 0, none⟩), w.alloc (.cells cs.toArray t), ?_, _, rfl, Al.mk' w cs t⟩
  unfold Do
  simp [execOp, hx, Instr.box, newVar, newRow, newObj, Sem.run, Value.cells]
theorem Ex_box1 (hx : ev ρ x = v) (hv : v.cells = #[v]) : ∃ u w', Do P ⟨d, .box t x, ty, pos, af, g⟩ ρ w u w' ∧ ∃ b, u = .pointer (some ⟨b, 0, none⟩) ∧ Al w w' b [v] t := by
  refine ⟨.pointer (some ⟨w.heap.size, 0, none⟩), w.alloc (.cells #[v] t), ?_, _, rfl, Al.mk' w [v] t⟩
  unfold Do
  simp [execOp, hx, Instr.box, newVar, newRow, newObj, Sem.run, hv]
def splice (cs : List Value) (i : Nat) (vs : List Value) : List Value := cs.take i ++ vs ++ cs.drop (i + vs.length)
theorem splice_one {cs : List Value} {i : Nat} (hi : i < cs.length) (v : Value) : splice cs i [v] = cs.set i v := by
  unfold splice; rw [List.set_eq_take_append_cons_drop, if_pos hi]; simp
theorem run_store {vs : List Value} (hb : Blk w b cs T) (hi : i + vs.length ≤ cs.length) (h1 : ∀ v ∈ vs, v.oneCell' = true) :
    ∃ w', (storeCells ⟨b, i, none⟩ vs 0).run P w = .ok () w' ∧ Wr w w' b (splice cs i vs) T := by
  have h := run_storeCells_at P b i T vs 0 cs.toArray w hb (by simpa using hi) h1
  simp only [Nat.add_zero] at h
  refine ⟨_, h, ?_⟩
  exact Wr.setRow hb (splice cs i vs)
theorem Ex_storeAt {vs : List Value} {m : Nat} (hs : Sz P t m) (hm : vs.length = m) (hx : ev ρ x = .pointer (some ⟨b, i, none⟩)) (hy : (ev ρ y).cells = vs.toArray) (h1 : ∀ v ∈ vs, v.oneCell' = true) (hb : Blk w b cs T) (hi : i + vs.length ≤ cs.length) :
    ∃ w', DoU P ⟨none, .store t x y, ty, pos, af, g⟩ ρ w w' ∧ Wr w w' b (splice cs i vs) T := by
  subst hm
  obtain ⟨w', h, hw⟩ := run_store (P := P) hb hi h1
  refine ⟨w', ?_, hw⟩
  unfold DoU
  simp [execOp, hx, Instr.storeAt, Instr.sureAddr, storeVar, hy, run_sizeOf' hs, h]
theorem Ex_store1 (hs : Sz P t 1) (hx : ev ρ x = .pointer (some ⟨b, i, none⟩)) (hy : ev ρ y = v) (h1 : v.oneCell' = true) (hb : Blk w b cs T) (hi : i < cs.length) :
    ∃ w', DoU P ⟨none, .store t x y, ty, pos, af, g⟩ ρ w w' ∧ Wr w w' b (cs.set i v) T := by
  have hv : (ev ρ y).cells = [v].toArray := by rw [hy]; cases v <;> simp_all [Value.cells, Value.oneCell']
  obtain ⟨w', h, hw⟩ := Ex_storeAt (P := P) (ty := ty) (pos := pos) (af := af) (g := g) (vs := [v]) hs rfl hx hv (by simpa using h1) hb (Nat.succ_le_of_lt hi)
  exact ⟨w', h, by rw [splice_one hi] at hw; exact hw⟩
theorem Ex_store {vs : List Value} {m : Nat} (hs : Sz P t m) (hm : vs.length = m) (hx : ev ρ x = .pointer (some ⟨b, i, none⟩)) (hy : ev ρ y = .agg vs.toArray) (h1 : ∀ v ∈ vs, v.oneCell' = true) (hb : Blk w b cs T) (hi : i + vs.length ≤ cs.length) :
    ∃ w', DoU P ⟨none, .store t x y, ty, pos, af, g⟩ ρ w w' ∧ Wr w w' b (splice cs i vs) T := Ex_storeAt hs hm hx (by rw [hy]; rfl) h1 hb hi
structure El (P : Program) (e : TypeId) (s bytes : Nat) (zs : List Value) : Prop where
  sz : (P.info? e).map (·.size) = some s
  by_ : (P.info? e).map (·.bytes) = some bytes
  zero : ((P.info? e).bind (·.zero)).map (·.cells.toList) = some zs
  pos : 0 < s
  len : zs.length = s
theorem El.Sz {bytes : Nat} {zs : List Value} (h : El P e s bytes zs) : Sz P e s := h.sz
theorem El.get {bytes : Nat} {zs : List Value} (h : El P e s bytes zs) : ∃ i z, P.info? e = some i ∧ i.zero = some z ∧ i.size = s ∧ i.bytes = bytes ∧ z.cells = zs.toArray := by
  obtain ⟨h1, h2, h3, _, _⟩ := h
  cases hi : P.info? e with
  | none => rw [hi] at h1; cases h1
  | some i =>
    rw [hi] at h1 h2 h3
    cases hz : i.zero with
    | none => simp [hz] at h3
    | some z =>
      simp at h1 h2
      simp [hz] at h3
      exact ⟨i, z, rfl, hz, h1, h2, by rw [← h3]⟩

def fillB (s len : Nat) (zs : List Value) (ps : List (Nat × Value)) : Option (List Value) := (Instr.fill (fun i => some (i * s, s)) ((Array.range (len * s)).map (zs.toArray[· % zs.toArray.size]!)) ps).map (·.toList)
theorem Ex_bs {len bytes : Nat} {zs : List Value} {parts : Array (Nat × Operand)} (hu : P.underlying t = some (.slice e)) (he : El P e s bytes zs) (hsmall : len * s ≤ 16777216) (hpos : 0 < len * s)
    (hf : fillB s len zs (parts.toList.map fun p => (p.1, ev ρ p.2)) = some cs) :
    ∃ v w', Do P ⟨d, .buildSlice t len parts, ty, pos, af, g⟩ ρ w v w' ∧ ∃ b, v = .slice (some ⟨b, 0, none⟩) len len ∧ Al w w' b cs e := by
  obtain ⟨i, z, h1, h2, h3, h4, h5⟩ := he.get
  refine ⟨_, _, ?_, w.heap.size, rfl, Al.mk' w cs e⟩
  unfold Do
  unfold fillB at hf
  rw [Option.map_eq_some_iff] at hf
  obtain ⟨ca, hf, rfl⟩ := hf
  have hr := run_buildSlice (P := P) w t e len (parts.map fun (i, x) => (i, ev ρ x)) ca i z hu h1 h2 (by rw [h3]; omega) (by rw [h3]; omega) (by
    rw [h3, h5, Array.toList_map]; exact hf)
  simp [execOp, hr]
theorem Ex_append {bytes : Nat} {zs : List Value} {u : Value} (hu : P.underlying t = some (.slice e)) (he : El P e s bytes zs) (hx : ev ρ x = v) (hy : ev ρ y = u) (hown : w.ownsRow 0 e s v n xs) (hr : SlR w u s m ys)
    (h1 : ∀ u ∈ ys, u.oneCell' = true) (h63 : n + m ≤ maxLen) (hby : (n + m) * bytes ≤ 140737488355328) :
    ∃ v' w', Do P ⟨d, .call { callee := .builtin .append, args := #[x, y], argTypes := #[t, t] }, ty, pos, af, g⟩ ρ w v' w' ∧ Ap w w' v v' e s (n + m) (xs ++ ys) := by
  obtain ⟨i, z, i1, i2, i3, i4, i5⟩ := he.get
  have hd : ∀ v' w', (Builtin.append_ #[t, t] ty #[v, u]).run P w = .ok v' w' → Do P ⟨d, .call { callee := .builtin .append, args := #[x, y], argTypes := #[t, t] }, ty, pos, af, g⟩ ρ w v' w' := by
    intro v' w' h
    unfold Do; simp [execOp, resolve, invoke, builtin, hx, hy, h]
  rcases hr.2 with ⟨hu', rfl⟩ | ⟨ua, cap, hu', h2, h3, _, hc⟩
  · subst hu'
    refine ⟨v, w, hd _ _ (run_append_owned_none (P := P) (w := w) 0 t ty e i s hu i1 v n xs hown), ?_, Only.refl _ w, fun b hb => .inl hb⟩
    have : ys = [] := List.eq_nil_of_length_eq_zero (by have := hr.1; omega)
    subst this
    simpa using hown
  · subst hu'
    have hzs : z.cells.size = s := by rw [i5]; simp [he.len]
    obtain ⟨v', w', hrun, ho, hg, _⟩ := run_append_own (P := P) w 0 t ty e i z s bytes hu i1 i2 i3 i4 hzs he.pos v n xs hown ua m cap ys hr.1 (fun j u hj => hc j u hj) h1 h63 hby (Nat.zero_le _)
    refine ⟨v', w', hd _ _ hrun, ho, ⟨hg.os, hg.tape, hg.output, hg.size, fun k hk hn => hg.block k hk (fun e => hn (by rw [ob_mem, ← ownBlock_eq, e]))⟩, ?_⟩
    intro b' hb'
    rcases hown.2 with ⟨rfl, rfl⟩ | ⟨g, cap', cur, rfl, hbg, hgg, hnc, hcm, hcs, htake⟩
    · obtain ⟨v2, w2, hrun2, ho2, _⟩ := run_append_own (P := P) w w.heap.size t ty e i z s bytes hu i1 i2 i3 i4 hzs he.pos (.slice none 0 0) 0 xs ⟨hown.1, .inl ⟨rfl, rfl⟩⟩ ua m cap ys hr.1 (fun j u hj => hc j u hj) h1 h63 hby (Nat.le_refl _)
      rw [hrun] at hrun2
      cases hrun2
      exact .inr (owns_ge ho2 b' (ob_mem.2 hb')).1
    · subst i3 i4
      by_cases hroom : n + m ≤ cap'
      · have hfit : n * i.size + ys.length ≤ cur.size := by rw [hr.1, hcs, ← Nat.add_mul]; exact Nat.mul_le_mul_right _ hroom
        have hr2 := run_append_room (P := P) w t ty e i hu i1 g n cap' cur hgg ua m cap ys hr.1 (fun j u hj => hc j u hj) h1 hroom hfit
        rw [hrun] at hr2
        cases hr2
        exact .inl hb'
      · have holds : ∀ j u, xs[j]? = some u → w.cell? ((⟨g, 0, none⟩ : Addr).add j) = some u := hown.cells (g := g) rfl
        have hr2 := run_append_grow (P := P) w t ty e i z hu i1 i2 ⟨g, 0, none⟩ n cap' xs hown.1 holds ua m cap ys hr.1 (fun j u hj => hc j u hj) (by omega) (by unfold maxLen at h63; omega) (growslice_fits (by omega) hby)
        rw [hrun] at hr2
        cases hr2
        refine .inr ?_
        have : b' = w.heap.size := by simpa [sblk, eq_comm] using hb'
        omega

/-! ### Arrays as values -/
theorem xH {parts : Array (Nat × Operand)} (h : (P.built t (parts.toList.map fun p => (p.1, ev ρ p.2))) = some cs.toArray) : Do P ⟨d, .build t parts, ty, pos, af, g⟩ ρ w (.agg cs.toArray) w := by
  have hr := run_build (P := P) w t (parts.map fun (i, x) => (i, ev ρ x)) cs.toArray (by rw [Array.toList_map]; exact h)
  unfold Do
  simp [execOp, hr]

/-! ### Texts -/
theorem run_bytes_zero (w : World) (src e : TypeId) (hs : P.underlying src = some (.slice e)) (he : P.underlying e = some (.int .u8)) (p : Option Addr) (c : Nat) :
    ∀ dst, P.underlying dst = some .string → (convert src dst (.slice p 0 c)).run P w = .ok (.string ByteArray.empty) w := by
  intro dst hd
  rw [run_convert_bytes_string w src dst e _ 0 c hs he hd]
  cases p <;> simp [Conv.bytesToString, loadCells, loadCellsFrom]
theorem str_beq (s1 s2 : ByteArray) : (s1.toList == s2.toList) = decide (s1 = s2) := by
  rw [Bool.eq_iff_iff, beq_iff_eq, decide_eq_true_eq, ByteArray.toList_eq, ByteArray.toList_eq]
  constructor
  · intro h
    have := Array.ext' h
    cases s1; cases s2; simp at this; rw [this]
  · rintro rfl; rfl
theorem Do_eqlstr {s1 s2 : ByteArray} (hx : ev ρ x = .string s1) (hy : ev ρ y = .string s2) : Do P ⟨d, .binOp .eql t x y u, ty, pos, af, g⟩ ρ w (.bool (decide (s1 = s2))) w := by
  unfold Do; simp [execOp, hx, hy, eqGuard, binOp_string_eql, str_beq]
theorem Do_neqstr {s1 s2 : ByteArray} (hx : ev ρ x = .string s1) (hy : ev ρ y = .string s2) : Do P ⟨d, .binOp .neq t x y u, ty, pos, af, g⟩ ρ w (.bool (decide (s1 ≠ s2))) w := by
  unfold Do; simp [execOp, hx, hy, eqGuard, binOp_string_neq, str_beq]
end
end Go.OB
