/- Regions that draw their order: what is owned and what is only read. -/
import Derived.Test.YtbjhondbheijiaaGreatLf6
import Derived.Test.YtbjhondbheijiaaGreatOpx
namespace Go.Lf
open Go.RowKit Go.OB
section
variable {P : Program} {N : Nat} {Q : Exit → Env → World → Prop} {ρ : Env} {w w0 w1 w' : World} {O S : List Nat} {l l2 : List Th} {i : Nat}
theorem oS : ∀ w w', Only S w0 w → Sees w w' → Only S w0 w' := fun _ _ h hs => h.step (Only.of_below hs) (by simp)
theorem Hd.rebase (H : Hd O w0 w S l) : Hd O w w (bks l) l :=
  ⟨Only.refl _ w, H.holds, fun it hm b hb => ⟨.inr (mem_bks.2 ⟨it, hm, hb⟩), (H.own it hm b hb).2⟩, H.nd, fun b hb => ⟨Nat.lt_of_lt_of_le (H.fo b hb).1 H.only.size, fun hm => by
    obtain ⟨it, hi, hbi⟩ := mem_bks.1 hm
    exact H.notO hi hbi hb⟩⟩
theorem Hd.rejoin (H : Hd O w0 w S l) (G : Hd O w w' (bks l) l2) : Hd O w0 w' S l2 := by
  have in0 : ∀ b ∈ bks l, w0.heap.size ≤ b ∨ b ∈ S := fun b hb => by
    obtain ⟨it, hi, hbi⟩ := mem_bks.1 hb
    exact (H.own it hi b hbi).1
  refine ⟨H.only.step G.only in0, G.holds, fun it hm b hb => ⟨?_, (G.own it hm b hb).2⟩, G.nd, H.fo⟩
  rcases (G.own it hm b hb).1 with h | h
  · exact .inl (Nat.le_trans H.only.size h)
  · exact in0 b h
/-- What is only read is so in every world of the region. -/
theorem Hd.firm (H : Hd O w w (bks l) l) {p : Fz} (hi : l[i]? = some (.fz p)) : ∀ w', Only (bks l) w w' → p.p (frees O l) w' := fun _ ho =>
  p.mono (fun b hb hl => ⟨hb, ho.block b hl hb.2⟩) (H.item hi)
theorem Hd.firmC (_H : Hd O w w (bks l) l) {b o : Nat} {cs : List Value} (h1 : frees O l b) (h2 : b < w.heap.size) (hc : Cells w ⟨b, o, none⟩ cs) : ∀ w', Only (bks l) w w' → Cells w' ⟨b, o, none⟩ cs := fun _ ho =>
  (Cells.same (F := frees O l) (F' := frees O l) (fun b hb hl => ⟨hb, ho.block b hl hb.2⟩) h1 h2 hc).2.2
theorem Fz.all {F : Nat → Prop} {p : Fz} (h : p.p F w) : p.p (frees [] []) w := p.mono (fun b _ _ => ⟨by simp [frees, bks], rfl⟩) h
theorem WP_mix {id : Nat} {c : List Oper} (_H : Hd O w w S l) (σ : List Nat) (κ : List Mx.Kd) (hm : P.follows .mixedOrders = true) (hs : Region.noSelect c.toArray = true) (hed : Mx.edgesB .any c.toArray = true) (hp : Mx.pairB .any c.toArray (Mx.kdOf κ) σ = true)
    (hσ : σ.isPerm (List.range c.length) = true) (h : Mx.XL P (fun w' => Only S w w') N c.toArray κ (fun ρ w => Q .normal ρ w) σ (Mx.sel c σ) ρ w) : WP P N (.region id c.toArray true) Q ρ w :=
  Mx.WP_mix σ κ hm hs hed hp hσ (fun _ _ => oS _ _) (Only.refl S w) h
theorem WP_mix0 {id : Nat} {c : List Oper} (_H : Hd O w w S l) (σ : List Nat) (κ : List Mx.Kd) (hm : P.follows .mixedOrders = true) (hs : Region.noSelect c.toArray = true) (hed : Mx.edgesB .any c.toArray = true) (hp : Mx.pairB .any c.toArray (Mx.kdOf κ) σ = true)
    (hσ : σ = List.range c.length) (h : Mx.XL P (fun w' => Only S w w') N c.toArray κ (fun ρ w => Q .normal ρ w) σ c ρ w) : WP P N (.region id c.toArray true) Q ρ w :=
  Mx.WP_mix0 σ κ hm hs hed hp hσ (fun _ _ => oS _ _) (Only.refl S w) h
end
section
variable {P : Program} {ρ : Env} {w w0 w1 : World} {d : Option Tmp} {x y z : Operand} {t u ty e : TypeId} {pos : String} {af : Array Edge} {g : Option (Nat × Bool)}
variable {v : Value} {b o i n c s : Nat} {k k' : IntKind} {cs xs vs : List Value} {T : TypeId} {O S : List Nat} {l : List Th} {α : Type} {r : Rp α} {xl yl zl : List α} {a : α} {j : Int} {F : Nat → Prop}
/-- The operation is tried in two worlds: what it makes is what it makes. -/
theorem Ls_of {R : Value → World → Prop} {Y : Value → World → Prop} {op : Oper} (h : ∃ v w', Do P op ρ w v w' ∧ R v w') (k : ∃ v w', Do P op ρ w v w' ∧ Y v w') : ∃ v w', Do P op ρ w v w' ∧ Y v w' ∧ R v w' := by
  obtain ⟨v, w', h1, h2⟩ := h
  obtain ⟨v2, w2, k1, k2⟩ := k
  have : v = v2 ∧ w' = w2 := by
    unfold Do at h1 k1
    rw [h1] at k1
    injection k1 with a b
    injection a with a
    exact ⟨a, b⟩
  obtain ⟨rfl, rfl⟩ := this
  exact ⟨v, w', h1, k2, h2⟩
theorem Ys_alloc (hz : Zero P t cs) : ∃ v w', Do P ⟨d, .alloc t, ty, pos, af, g⟩ ρ w v w' ∧ Sees w w' := by
  obtain ⟨v, w', h1, b, h2, h3⟩ := Ex_alloc (P := P) (ρ := ρ) (w := w) (d := d) (ty := ty) (pos := pos) (af := af) (g := g) hz
  exact ⟨v, w', h1, h3.only.below⟩
theorem Ys_box (hx : ev ρ x = .agg cs.toArray) : ∃ v w', Do P ⟨d, .box t x, ty, pos, af, g⟩ ρ w v w' ∧ Sees w w' := by
  obtain ⟨v, w', h1, b, h2, h3⟩ := Ex_box (P := P) (ρ := ρ) (w := w) (d := d) (ty := ty) (pos := pos) (af := af) (g := g) (t := t) hx
  exact ⟨v, w', h1, h3.only.below⟩
theorem Ys_box1 (hx : ev ρ x = v) (hv : v.cells = #[v]) : ∃ u w', Do P ⟨d, .box t x, ty, pos, af, g⟩ ρ w u w' ∧ Sees w w' := by
  obtain ⟨v, w', h1, b, h2, h3⟩ := Ex_box1 (P := P) (ρ := ρ) (w := w) (d := d) (ty := ty) (pos := pos) (af := af) (g := g) (t := t) hx hv
  exact ⟨v, w', h1, h3.only.below⟩
theorem Ys_bs {len bytes s : Nat} {zs : List Value} {parts : Array (Nat × Operand)} (hu : P.underlying t = some (.slice e)) (he : El P e s bytes zs) (hsmall : len * s ≤ 16777216) (hpos : 0 < len * s)
    (hf : fillB s len zs (parts.toList.map fun p => (p.1, ev ρ p.2)) = some cs) : ∃ v w', Do P ⟨d, .buildSlice t len parts, ty, pos, af, g⟩ ρ w v w' ∧ Sees w w' := by
  obtain ⟨v, w', h1, b, rfl, hA⟩ := Ex_bs (P := P) (ρ := ρ) (w := w) (d := d) (ty := ty) (pos := pos) (af := af) (g := g) hu he hsmall hpos hf
  exact ⟨_, w', h1, hA.only.below⟩
theorem Ys_bs0 {bytes s : Nat} {zs : List Value} (hu : P.underlying t = some (.slice e)) (he : El P e s bytes zs) : ∃ v w', Do P ⟨d, .buildSlice t 0 #[], ty, pos, af, g⟩ ρ w v w' ∧ Sees w w' := by
  obtain ⟨v, w', h1, b, rfl, hA⟩ := Ex_bs0 (P := P) (ρ := ρ) (w := w) (d := d) (ty := ty) (pos := pos) (af := af) (g := g) hu he
  exact ⟨_, w', h1, hA.only.below⟩
/-- The first elements of a list, as an array. -/
def arr' {α : Type} (n : Nat) (l : List α) : Option (Arr n α) := if h : n ≤ l.length then some ⟨l.take n, by rw [List.length_take]; omega⟩ else none
theorem arr_some {α : Type} {n : Nat} {l : List α} {A : Arr n α} (h : arr' n l = some A) : n ≤ l.length ∧ A.l = l.take n := by
  unfold arr' at h
  split at h
  · rename_i c; cases h; exact ⟨c, rfl⟩
  · cases h
theorem Lx_toArr {e : Fl α} {A : Arr n α} (hr : ∀ F w c x, r.rd F w c x ↔ c = e.f x) (hrs : r.sz = e.sz) (h : SlF r F w v xl) (hA : arr' n xl = some A) (h0 : 0 < n) :
    ∃ b o, (∃ c, v = .slice (some ⟨b, o, none⟩) xl.length c) ∧ F b ∧ b < w.heap.size ∧ Cells w ⟨b, o, none⟩ ((Fl.arr n e).f A) := by
  obtain ⟨hn, hl⟩ := arr_some hA
  obtain ⟨xs, h1, h2, h3⟩ := h
  obtain ⟨b, o, cap, rfl, -, -, hc⟩ := h2.some (by omega)
  have h4 := h3 (by omega) b rfl
  refine ⟨b, o, ⟨cap, rfl⟩, h4.1, h4.2, ?_⟩
  have hx : ∀ {l : List α} {cs : List Value}, rows r F w cs l → cs = l.flatMap e.f := by
    intro l
    induction l with
    | nil => intro cs h; exact h
    | cons x l ih =>
      rintro cs ⟨c, d, rfl, k1, k2⟩
      rw [(hr _ _ _ _).1 k1, ih k2]; rfl
  have hd := hc.drop 0 (n * e.sz)
  rw [Nat.add_zero, List.drop_zero, hx h1] at hd
  have e2 : (xl.flatMap e.f).take (n * e.sz) = (Fl.arr n e).f A := by
    have := rows_take (r := Rp.fl e) (F := F) (w := w) n (rows_fl (l := xl).2 rfl)
    have := rows_fl.1 this
    show _ = A.l.flatMap e.f
    rw [hl]; exact this
  rwa [e2] at hd
theorem Do_toArrF {A : Arr n α} (hu : P.underlying t = some (.array n e)) (hx : ev ρ x = v) (h0 : ∃ c, v = .slice (some ⟨b, o, none⟩) xl.length c) (h : arr' n xl = some A) : Do P ⟨d, .sliceToArrayPointer t x, ty, pos, af, g⟩ ρ w (.pointer (some ⟨b, o, none⟩)) w := by
  obtain ⟨c, rfl⟩ := h0
  exact Do_toArr hu hx (arr_some h).1
end
theorem fillB_one {ρ : Env} {α : Type} {e : Fl α} {a : α} {zs : List Value} {parts : List (Nat × Operand)} (hs : 0 < e.sz) (hi : parts.map Prod.fst = List.range 1) (hv : parts.map (fun p => ev ρ p.2) = [.agg (e.f a).toArray]) :
    fillB e.sz 1 zs (parts.map fun p => (p.1, ev ρ p.2)) = some (e.f a) :=
  fillB_parts hs hi hv ⟨by simp [Value.cells, e.len], trivial⟩ (by simp [Value.cells])
end Go.Lf
