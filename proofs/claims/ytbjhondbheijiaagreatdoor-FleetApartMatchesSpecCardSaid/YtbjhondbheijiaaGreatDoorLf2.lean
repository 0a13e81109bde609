/- Lifting: rules for operations on what is owned and what is read. -/
import Derived.Test.YtbjhondbheijiaaGreatDoorLf1
namespace Go.Lf
open Go.RowKit Go.OB

section
variable {P : Program} {ρ : Env} {w w0 w1 : World} {d : Option Tmp} {x y z : Operand} {t u ty e : TypeId} {pos : String} {af : Array Edge} {g : Option (Nat × Bool)}
variable {v : Value} {b o i n c s : Nat} {k k' : IntKind} {cs xs vs : List Value} {T : TypeId} {O S : List Nat} {l : List Th} {α : Type} {r : Rp α} {xl yl zl : List α} {a : α} {j : Int} {F : Nat → Prop}

/-! ### Reading -/
theorem wB (h : SlF r F w v xl) (hx : at' xl j = some a) : ∃ b o cap cs, v = .slice (some ⟨b, o, none⟩) xl.length cap ∧ r.rd F w cs a ∧ F b ∧ b < w.heap.size ∧ Cells w ⟨b, o + j.toNat * r.sz, none⟩ cs := by
  obtain ⟨h0, hl, hx⟩ := yD hx
  obtain ⟨xs, h1, h2, h3⟩ := h
  have hn : 0 < xl.length := by omega
  obtain ⟨b, o, cap, rfl, -, -, hc⟩ := h2.some hn
  have h4 := h3 hn b rfl
  exact ⟨b, o, cap, _, rfl, rows_get h1 hx, h4.1, h4.2, hc.drop _ _⟩
theorem own_at0 (h : ∃ xs, rows r F w xs xl ∧ w.ownsRow 0 e r.sz v xl.length xs) (hx : at' xl j = some a) : ∃ b cap cs, v = .slice (some ⟨b, 0, none⟩) xl.length cap ∧ r.rd F w cs a ∧ Cells w ⟨b, j.toNat * r.sz, none⟩ cs := by
  obtain ⟨h0, hl, hx⟩ := yD hx
  obtain ⟨xs, h1, h2⟩ := h
  obtain ⟨b, cap, cur, rfl, hb, -, -⟩ := owns_some h2 (by omega)
  refine ⟨b, cap, _, rfl, rows_get h1 hx, fun i v hv => ?_⟩
  have hlen := rows_len h1
  rw [Addr.add_none]
  refine hb.cell ?_
  have hi : (xs.drop (j.toNat * r.sz))[i]? = some v := by
    rw [List.getElem?_take] at hv
    split at hv
    · exact hv
    · cases hv
  rw [List.getElem?_drop] at hi
  rw [List.getElem?_append_left (List.getElem?_eq_some_iff.1 hi).1]
  exact hi
theorem own_at (h : ∃ xs, rows r F w xs xl ∧ w.ownsRow 0 e r.sz v xl.length xs) (hx : at' xl j = some a) : ∃ b cap cs, v = .slice (some ⟨b, 0, none⟩) xl.length cap ∧ r.rd F w cs a ∧ Cells w ⟨b, 0 + j.toNat * r.sz, none⟩ cs := by
  obtain ⟨b, cap, cs, h1, h2, h3⟩ := own_at0 h hx
  exact ⟨b, cap, cs, h1, h2, by rw [Nat.zero_add]; exact h3⟩
/-- What is handed to an append or a copy. -/
def Sr (r : Rp α) (F : Nat → Prop) (w : World) (v : Value) (l : List α) : Prop := ∃ xs, rows r F w xs l ∧ SlR w v r.sz l.length xs
theorem Sr.of_rd (h : SlF r F w v xl) : Sr r F w v xl := ⟨_, h.choose_spec.1, h.choose_spec.2.1⟩
theorem Sr.of_own (h : ∃ xs, rows r F w xs xl ∧ w.ownsRow 0 e r.sz v xl.length xs) : Sr r F w v xl := ⟨_, h.choose_spec.1, owns_slr h.choose_spec.2⟩
theorem Sr.len (h : Sr r F w v xl) : ∃ a c, v = .slice a xl.length c := h.choose_spec.2.shape
/-! ### Slices -/
theorem Do_fieldAddr {fs : Array Field} {f : Field} {m : Nat} (hu : P.underlying t = some (.struct fs)) (hf : fs[i]? = some f) (hs : Sz P f.type n) (hn : n ≠ 0) (hx : ev ρ x = .pointer (some ⟨b, o, none⟩)) (hm : o + f.offset = m) :
    Do P ⟨d, .fieldAddr t x i, ty, pos, af, g⟩ ρ w (.pointer (some ⟨b, m, none⟩)) w := by
  subst hm
  unfold Do
  simp [execOp, Instr.fieldAt, Instr.sureAddr, fieldPlace, hx, hf, run_underlying hu, run_sizeOf' hs, hn, Addr.add_none]
theorem Lx_app {bytes : Nat} {zs : List Value} {uv : Value} (H : Hd O w0 w S l) (hi : l[i]? = some (.own r v e xl)) (hu : P.underlying t = some (.slice e)) (he : El P e r.sz bytes zs) (hx : ev ρ x = v) (hy : ev ρ y = uv)
    (hr : Sr r (frees O l) w uv yl) (ha : app' bytes xl yl = some zl) :
    ∃ v' w', Do P ⟨d, .call { callee := .builtin .append, args := #[x, y], argTypes := #[t, t] }, ty, pos, af, g⟩ ρ w v' w' ∧ Hd O w0 w' S (l.set i (.own r v' e zl)) := by
  obtain ⟨h1, h2, rfl⟩ := app_some ha
  obtain ⟨xs, r1, r2⟩ := H.item hi
  obtain ⟨ys, s1, s2⟩ := hr
  obtain ⟨v', w', hd, hA⟩ := Ex_append (P := P) (ρ := ρ) (w := w) (d := d) (ty := ty) (pos := pos) (af := af) (g := g) hu he hx hy r2 s2 (rows_one s1) h1 h2
  refine ⟨v', w', hd, H.turn hi hA.only (fun hs => ?_) (fun b hb => ⟨(hA.blk b (ob_mem.1 hb)).imp ob_mem.2 id, (owns_ge hA.own b hb).2⟩) (ob_nd v')⟩
  exact ⟨xs ++ ys, rows_mono hs (rows_app r1 s1), by simpa using hA.own⟩
theorem xR (hz : Zero P t cs) (H : Hd O w0 w S l) : ∃ v w', Do P ⟨d, .alloc t, ty, pos, af, g⟩ ρ w v w' ∧ ∃ b, v = .pointer (some ⟨b, 0, none⟩) ∧ Hd O w0 w' S (l ++ [.blk b cs t]) := by
  obtain ⟨v, w', h1, b, h2, h3⟩ := Ex_alloc (P := P) (ρ := ρ) (w := w) (d := d) (ty := ty) (pos := pos) (af := af) (g := g) hz
  exact ⟨v, w', h1, b, h2, H.alloc h3⟩
theorem Lx_box (hx : ev ρ x = .agg cs.toArray) (H : Hd O w0 w S l) : ∃ v w', Do P ⟨d, .box t x, ty, pos, af, g⟩ ρ w v w' ∧ ∃ b, v = .pointer (some ⟨b, 0, none⟩) ∧ Hd O w0 w' S (l ++ [.blk b cs t]) := by
  obtain ⟨v, w', h1, b, h2, h3⟩ := Ex_box (P := P) (ρ := ρ) (w := w) (d := d) (ty := ty) (pos := pos) (af := af) (g := g) hx
  exact ⟨v, w', h1, b, h2, H.alloc h3⟩
/-- One cell of a variable is written. -/
theorem Lx_store1 (H : Hd O w0 w S l) (n : Nat) (hi : l[n]? = some (.blk b cs T)) (hs : Sz P t 1) (hx : ev ρ x = .pointer (some ⟨b, i, none⟩)) (hy : ev ρ y = v) (h1 : v.oneCell' = true) (hl : Nat.blt i cs.length = true) :
    ∃ w', DoU P ⟨none, .store t x y, ty, pos, af, g⟩ ρ w w' ∧ Hd O w0 w' S (l.set n (.blk b (cs.set i v) T)) := by
  have hl : i < cs.length := by rw [Nat.blt] at hl; exact Nat.lt_of_succ_le (Nat.le_of_ble_eq_true hl)
  obtain ⟨w', h2, h3⟩ := Ex_store1 (P := P) (ρ := ρ) (ty := ty) (pos := pos) (af := af) (g := g) hs hx hy h1 (H.item hi) hl
  exact ⟨w', h2, H.wr hi h3⟩
def allone : List Value → Prop
  | [] => True
  | v :: l => v.oneCell' = true ∧ allone l
theorem allone_mem : ∀ {l : List Value}, allone l → ∀ v ∈ l, v.oneCell' = true
  | [], _, v, h => by cases h
  | x :: l, h, v, hv => by
    rcases List.mem_cons.1 hv with e | e
    · rw [e]; exact h.1
    · exact allone_mem h.2 v e
theorem slf_one (h : SlF r F w v xl) : v.oneCell' = true := SlR.one h.choose_spec.2.1
theorem own_one (h : ∃ xs, rows r F w xs xl ∧ w.ownsRow 0 e r.sz v xl.length xs) : v.oneCell' = true := SlR.one (owns_slr h.choose_spec.2)
def allsz (s : Nat) : List Value → Prop
  | [] => True
  | v :: l => v.cells.size = s ∧ allsz s l
theorem allsz_mem {s : Nat} : ∀ {l : List Value}, allsz s l → ∀ v ∈ l, v.cells.size = s
  | [], _, v, h => by cases h
  | x :: l, h, v, hv => by
    rcases List.mem_cons.1 hv with e | e
    · rw [e]; exact h.1
    · exact allsz_mem h.2 v e
/-- Some cells of a variable are written. -/
theorem xA (H : Hd O w0 w S l) (n : Nat) (hi : l[n]? = some (.blk b cs T)) {m : Nat} (hs : Sz P t m) (hm : vs.length = m) (hx : ev ρ x = .pointer (some ⟨b, i, none⟩)) (hy : ev ρ y = .agg vs.toArray) (h1 : allone vs) (hl : Nat.ble (i + vs.length) cs.length = true) :
    ∃ w', DoU P ⟨none, .store t x y, ty, pos, af, g⟩ ρ w w' ∧ Hd O w0 w' S (l.set n (.blk b (splice cs i vs) T)) := by
  obtain ⟨w', h2, h3⟩ := Ex_store (P := P) (ρ := ρ) (ty := ty) (pos := pos) (af := af) (g := g) hs hm hx hy (allone_mem h1) (H.item hi) (Nat.le_of_ble_eq_true hl)
  exact ⟨w', h2, H.wr hi h3⟩
/-- A slice of its own, of elements that are given. -/
theorem Lx_bs {len bytes : Nat} {zs : List Value} {parts : Array (Nat × Operand)} (hu : P.underlying t = some (.slice e)) (he : El P e r.sz bytes zs) (hsmall : len * r.sz ≤ 16777216) (hpos : 0 < len * r.sz) (hln : xl.length = len)
    (hf : fillB r.sz len zs (parts.toList.map fun p => (p.1, ev ρ p.2)) = some cs) (H : Hd O w0 w S l) (hr : rows r (frees O l) w cs xl) :
    ∃ v w', Do P ⟨d, .buildSlice t len parts, ty, pos, af, g⟩ ρ w v w' ∧ Hd O w0 w' S (l ++ [.own r v e xl]) := by
  obtain ⟨v, w', h1, b, rfl, hA⟩ := Ex_bs (P := P) (ρ := ρ) (w := w) (d := d) (ty := ty) (pos := pos) (af := af) (g := g) hu he hsmall hpos hf
  refine ⟨_, w', h1, H.add hA.only (fun hs => ⟨cs, rows_mono hs hr, ?_⟩) (fun b' hb' => ?_) (ob_nd _)⟩
  · have hlen := rows_len hr
    subst hln
    exact ⟨hlen, .inr ⟨b, xl.length, cs.toArray, rfl, Nat.zero_le _, hA.blk, Nat.le_refl _, (by rw [maxLen_eq]; have h0 : r.sz ≠ 0 := (by intro h; rw [h] at hpos; simp at hpos); have : xl.length ≤ xl.length * r.sz := Nat.le_mul_of_pos_right _ (by omega); omega), (by simpa using hlen), (by rw [List.take_of_length_le]; simp [hlen])⟩⟩
  · have : b' = b := by simpa [Th.blocks, ob, sblk] using hb'
    subst this
    exact ⟨Nat.le_of_eq hA.at_.symm, by rw [hA.size, hA.at_]; omega⟩
theorem own_nil (H : Hd O w0 w S l) (r : Rp α) (e : TypeId) : Hd O w0 w S (l ++ [.own r (.slice none 0 0) e []]) :=
  H.add (Only.refl [] w) (fun _ => ⟨[], rfl, w.ownsRow_nil 0 e r.sz⟩) (by simp [Th.blocks, ob, sblk]) (by simp [Th.blocks, ob, sblk])
end
end Go.Lf
