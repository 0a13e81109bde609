/- Arrays, and '==' of data without addresses. -/
import Derived.Test.YtnajnkghilemhaaGreatDoorLfP
import Derived.Test.YtnajnkghilemhaaGreatDoorMx2
namespace Go.Lf
open Go.RowKit Go.OB
structure Arr (n : Nat) (α : Type) where
  l : List α
  h : l.length = n
theorem Arr.ext {n : Nat} {α : Type} : ∀ {x y : Arr n α}, x.l = y.l → x = y
  | ⟨_, _⟩, ⟨_, _⟩, h => by cases h; rfl
instance {n : Nat} {α : Type} [DecidableEq α] : DecidableEq (Arr n α) := fun x y => decidable_of_iff (x.l = y.l) ⟨Arr.ext, fun h => by rw [h]⟩
def Arr.set {n : Nat} {α : Type} (x : Arr n α) (i : Int) (a : α) : Arr n α := ⟨x.l.set i.toNat a, by rw [List.length_set, x.h]⟩
theorem Arr.at_lt {n : Nat} {α : Type} {x : Arr n α} {q : Int} {a : α} (h : at' x.l q = some a) : 0 ≤ q ∧ q < n := by
  have := yU h; rw [x.h] at this; exact ⟨this.1, this.2.1⟩
structure Fl (α : Type) where
  sz : Nat
  f : α → List Value
  len : ∀ x, (f x).length = sz
  one : ∀ x, ∀ v ∈ f x, v.oneCell' = true
section
variable {α β : Type} {n : Nat}
def Fl.int (k : IntKind) : Fl Int := ⟨1, fun x => [.int k x], fun _ => rfl, fun _ v h => by obtain rfl := List.mem_singleton.1 h; rfl⟩
def Fl.bool : Fl Bool := ⟨1, fun x => [.bool x], fun _ => rfl, fun _ v h => by obtain rfl := List.mem_singleton.1 h; rfl⟩
def Fl.str : Fl Str := ⟨1, fun x => [.string (bs x)], fun _ => rfl, fun _ v h => by obtain rfl := List.mem_singleton.1 h; rfl⟩
def Fl.pair (a : Fl α) (b : Fl β) : Fl (α × β) := ⟨a.sz + b.sz, fun x => a.f x.1 ++ b.f x.2, fun x => by rw [List.length_append, a.len, b.len], fun x v h => (List.mem_append.1 h).elim (a.one _ v) (b.one _ v)⟩
def Fl.iso (a : Fl α) (g : β → α) : Fl β := ⟨a.sz, fun x => a.f (g x), fun _ => a.len _, fun _ => a.one _⟩
theorem fl_flat_len (e : Fl α) : ∀ l : List α, (l.flatMap e.f).length = l.length * e.sz
  | [] => by simp
  | x :: l => by rw [List.flatMap_cons, List.length_append, e.len, fl_flat_len e l, List.length_cons, Nat.add_mul]; omega
def Fl.arr (n : Nat) (e : Fl α) : Fl (Arr n α) := ⟨n * e.sz, fun x => x.l.flatMap e.f, fun x => by rw [fl_flat_len, x.h], fun x v h => by obtain ⟨y, _, hy⟩ := List.mem_flatMap.1 h; exact e.one y v hy⟩
def Rp.fl (e : Fl α) : Rp α := ⟨e.sz, fun _ _ cs x => cs = e.f x, fun h => by subst h; exact e.len _, fun h => by subst h; exact e.one _, fun _ h => h⟩
theorem rows_fl {e : Fl α} {F : Nat → Prop} {w : World} : ∀ {l : List α} {cs : List Value}, rows (Rp.fl e) F w cs l ↔ cs = l.flatMap e.f
  | [], cs => Iff.rfl
  | x :: l, cs => by
    constructor
    · rintro ⟨c, d, rfl, h1, h2⟩
      have h1 : c = e.f x := h1
      rw [h1, rows_fl.1 h2]; rfl
    · rintro rfl
      exact ⟨e.f x, l.flatMap e.f, rfl, rfl, rows_fl.2 rfl⟩
theorem fl_get {e : Fl α} {l : List α} {i : Nat} {a : α} (h : l[i]? = some a) : ((l.flatMap e.f).drop (i * e.sz)).take e.sz = e.f a := by
  have := rows_get (r := Rp.fl e) (F := fun _ => True) (w := default) (rows_fl.2 rfl) h
  exact this
theorem Arr.f_get {e : Fl α} {x : Arr n α} {q : Int} {a : α} (h : at' x.l q = some a) : (((Fl.arr n e).f x).drop (q.toNat * e.sz)).take e.sz = e.f a := fl_get (yU h).2.2
theorem Cells.ix {e : Fl α} {x : Arr n α} {w : World} {b o : Nat} {q : Int} {a : α} (hc : Cells w ⟨b, o, none⟩ ((Fl.arr n e).f x)) (h : at' x.l q = some a) : Cells w ⟨b, o + q.toNat * e.sz, none⟩ (e.f a) := by
  have := hc.drop (q.toNat * e.sz) e.sz
  rwa [Arr.f_get h] at this
end
section
variable {P : Program} {ρ : Env} {w w0 w1 : World} {d : Option Tmp} {x y z : Operand} {t u ty : TypeId} {pos : String} {af : Array Edge} {g : Option (Nat × Bool)}
variable {v : Value} {b o i n c s m : Nat} {k k' : IntKind} {cs xs vs : List Value} {T : TypeId} {O S : List Nat} {l : List Th} {α : Type} {e : Fl α} {X Y : Arr n α} {a : α} {j q : Int} {F : Nat → Prop}
theorem Do_load1 (h1 : OneC P t) (hx : ev ρ x = .pointer (some ⟨b, o, none⟩)) (hc : Cells w ⟨b, o, none⟩ [v]) : Do P ⟨d, .load t x, ty, pos, af, g⟩ ρ w v w :=
  zT h1 hx (by have := hc.get (i := 0) (v := v) rfl; exact this)
theorem Do_idxA (hu : P.underlying t = some (.array n u)) (hs : Sz P u s) (hx : ev ρ x = .pointer (some ⟨b, o, none⟩)) (hy : ev ρ y = .int k q) (h : at' X.l q = some a) :
    Do P ⟨d, .indexAddr t x y, ty, pos, af, g⟩ ρ w (.pointer (some ⟨b, o + q.toNat * s, none⟩)) w :=
  Do_idxa hu hs hx hy (Arr.at_lt h).1 (Arr.at_lt h).2 rfl rfl
theorem Hd.freezeB (H : Hd O w0 w S l) (hi : l[i]? = some (.blk b cs T)) : Hd O w0 w S (l.set i (.fz (.at b 0 cs))) := by
  refine H.turn hi (Only.refl _ w) (fun hs => ?_) (by simp [Th.blocks]) (by simp [Th.blocks])
  have hb := H.item hi
  have hbm : b ∈ (Th.blk b cs T).blocks := by simp [Th.blocks]
  refine ⟨⟨H.notO (List.mem_of_getElem? hi) hbm, fun hm => ?_⟩, Blk.lt hb, Blk.cells hb⟩
  rcases bks_set hm with h | ⟨j, x, hj, hx, hbx⟩
  · simp [Th.blocks] at h
  · exact H.apart hx hi hj b hbx hbm
/-! ### '==' -/
def EqF (P : Program) (t : TypeId) (e : Fl α) [DecidableEq α] (k : Nat) : Prop :=
  ∀ D (xs ys : Array Value) (i : Nat) (a b : α) (w : World), (xs.toList.drop i).take e.sz = e.f a → (ys.toList.drop i).take e.sz = e.f b →
    ∃ u v, (part t xs i).run P w = .ok u w ∧ (part t ys i).run P w = .ok v w ∧ (Op.equalIn (D + k) t u v).run P w = .ok (decide (a = b)) w
theorem part_one (ho : OneC P t) {xs : Array Value} {i : Nat} {v : Value} (h : (xs.toList.drop i).take 1 = [v]) (w : World) : (part t xs i).run P w = .ok v w := by
  have h2 : xs[i]? = some v := by
    have := congrArg (fun l => l[0]?) h
    simpa [List.getElem?_take, List.getElem?_drop] using this
  simp [part, run_isAgg_one ho, h2]
theorem part_agg (ho : Agg P t) (hs : Sz P t n) {xs : Array Value} {i : Nat} (w : World) : (part t xs i).run P w = .ok (.agg ((xs.toList.drop i).take n).toArray) w := by
  simp only [part, Sem.run_bind, run_isAgg_agg ho, Result.andThen_ok, if_true, run_sizeOf' hs, Sem.run_pure]
  congr 2
  apply Array.ext'
  simp
theorem EqF.int {kk : IntKind} (hu : P.underlying t = some (.int kk)) : EqF P t (Fl.int kk) 1 := by
  have ho : OneC P t := by unfold OneC; rw [hu]; rfl
  intro D xs ys i a b w h1 h2
  refine ⟨_, _, part_one ho h1 w, part_one ho h2 w, ?_⟩
  rw [run_equalIn_int w D t kk kk _ _ hu]
  rfl
theorem EqF.bool (hu : P.underlying t = some .bool) : EqF P t Fl.bool 1 := by
  have ho : OneC P t := by unfold OneC; rw [hu]; rfl
  intro D xs ys i a b w h1 h2
  refine ⟨_, _, part_one ho h1 w, part_one ho h2 w, ?_⟩
  rw [run_equalIn_bool' w D t _ _ hu]
  rfl
theorem beq_bs {a b : Str} : (bs a == bs b) = true ↔ decide (a = b) = true := by
  rw [decide_eq_true_eq, beq_toListBytes, beq_iff_eq, ByteArray.toList_eq, ByteArray.toList_eq]
  simp [bs]
theorem EqF.str (hu : P.underlying t = some .string) : EqF P t Fl.str 1 := by
  have ho : OneC P t := by unfold OneC; rw [hu]; rfl
  intro D xs ys i a b w h1 h2
  refine ⟨_, _, part_one ho h1 w, part_one ho h2 w, ?_⟩
  rw [run_equalIn_string w D t _ _ hu]
  congr 1
  rw [Bool.eq_iff_iff]
  rw [← beq_toListBytes]
  exact beq_bs
theorem EqF.arr [DecidableEq α] {k : Nat} (hu : P.underlying t = some (.array n u)) (hs : Sz P u e.sz) (hsn : Sz P t (n * e.sz)) (he : EqF P u e k) : EqF P t (Fl.arr n e) (k + 1) := by
  have ho : Agg P t := by unfold Agg; rw [hu]; rfl
  intro D xs ys i a b w h1 h2
  have h1 : (xs.toList.drop i).take (n * e.sz) = (Fl.arr n e).f a := h1
  have h2 : (ys.toList.drop i).take (n * e.sz) = (Fl.arr n e).f b := h2
  refine ⟨_, _, part_agg ho hsn w, part_agg ho hsn w, ?_⟩
  rw [h1, h2]
  unfold Sz at hs
  cases hi : P.info? u with
  | none => rw [hi] at hs; cases hs
  | some inf =>
    have hc : P.cellsOf u = e.sz := by
      rw [hi] at hs; simp at hs
      simp [Program.cellsOf, hi, hs]
    have e0 : D + (k + 1) = (D + k) + 1 := by omega
    rw [e0, run_equalIn_array w (D + k) _ _ hu hi, hc]
    have key : ∀ (is : List Nat), (∀ j ∈ is, j < n) → (Op.eqItems (D + k) u e.sz ((Fl.arr n e).f a).toArray ((Fl.arr n e).f b).toArray is).run P w = .ok (decide (∀ j ∈ is, a.l[j]? = b.l[j]?)) w := by
      intro is
      induction is with
      | nil => intro _; simp [Op.eqItems]
      | cons j is ih =>
        intro hj
        have hjn := hj j List.mem_cons_self
        have ga : a.l[j]? = some (a.l[j]'(by rw [a.h]; exact hjn)) := List.getElem?_eq_getElem _
        have gb : b.l[j]? = some (b.l[j]'(by rw [b.h]; exact hjn)) := List.getElem?_eq_getElem _
        obtain ⟨u', v', p1, p2, p3⟩ := he D ((Fl.arr n e).f a).toArray ((Fl.arr n e).f b).toArray (j * e.sz) _ _ w (fl_get ga) (fl_get gb)
        have ih := ih (fun j hj' => hj j (List.mem_cons_of_mem _ hj'))
        simp only [Op.eqItems, Sem.run_bind, p1, p2, p3, Result.andThen_ok]
        by_cases hab : a.l[j]'(by rw [a.h]; exact hjn) = b.l[j]'(by rw [b.h]; exact hjn)
        · simp only [hab, decide_true, Bool.not_true, Bool.false_eq_true, if_false, ih]
          simp [ga, gb, hab]
        · simp only [hab, decide_false, Bool.not_false, if_true]
          simp [ga, gb, hab]
    rw [key (List.range n) (fun j hj => List.mem_range.1 hj)]
    congr 1
    rw [decide_eq_decide]
    constructor
    · intro h
      apply Arr.ext
      apply List.ext_getElem?
      intro j
      by_cases hj : j < n
      · exact h j (List.mem_range.2 hj)
      · rw [List.getElem?_eq_none (by rw [a.h]; omega), List.getElem?_eq_none (by rw [b.h]; omega)]
    · intro h j _; rw [h]
def EqFs (P : Program) (fs : List Field) (o : Nat) (e : Fl α) [DecidableEq α] (k : Nat) : Prop :=
  ∀ D (xs ys : Array Value) (a b : α) (w : World), (xs.toList.drop o).take e.sz = e.f a → (ys.toList.drop o).take e.sz = e.f b → (Op.eqFields (D + k) xs ys fs).run P w = .ok (decide (a = b)) w
theorem EqFs.one [DecidableEq α] {f : Field} {k : Nat} (ho : f.offset = o) (hn : f.name ≠ "_") (h : EqF P f.type e k) : EqFs P [f] o e k := by
  subst ho
  intro D xs ys a b w h1 h2
  obtain ⟨u, v, p1, p2, p3⟩ := h D xs ys _ a b w h1 h2
  simp only [Op.eqFields, hn, ne_eq, not_false_eq_true, if_true, Sem.run_bind, p1, p2, p3, Result.andThen_ok]
  by_cases hab : a = b <;> simp [hab]
theorem EqFs.cons {β : Type} [DecidableEq α] [DecidableEq β] {e' : Fl β} {f : Field} {fs : List Field} {k : Nat} (ho : f.offset = o) (hn : f.name ≠ "_") (h : EqF P f.type e k) (h' : EqFs P fs (o + e.sz) e' k) : EqFs P (f :: fs) o (Fl.pair e e') k := by
  subst ho
  intro D xs ys a b w h1 h2
  have t1 : ∀ (zs : Array Value) (c : α × β), (zs.toList.drop f.offset).take (e.sz + e'.sz) = e.f c.1 ++ e'.f c.2 → (zs.toList.drop f.offset).take e.sz = e.f c.1 ∧ (zs.toList.drop (f.offset + e.sz)).take e'.sz = e'.f c.2 := by
    intro zs c h
    constructor
    · have := congrArg (List.take e.sz) h
      rw [List.take_take, Nat.min_eq_left (by omega), List.take_left' (e.len _)] at this
      exact this
    · have := congrArg (List.drop e.sz) h
      rw [List.drop_take, List.drop_drop, Nat.add_sub_cancel_left, List.drop_left' (e.len _)] at this
      exact this
  obtain ⟨u, v, p1, p2, p3⟩ := h D xs ys _ a.1 b.1 w (t1 xs a h1).1 (t1 ys b h2).1
  have q := h' D xs ys a.2 b.2 w (t1 xs a h1).2 (t1 ys b h2).2
  simp only [Op.eqFields, hn, ne_eq, not_false_eq_true, if_true, Sem.run_bind, p1, p2, p3, Result.andThen_ok]
  obtain ⟨a1, a2⟩ := a
  obtain ⟨b1, b2⟩ := b
  by_cases hab : a1 = b1
  · simp [hab, q]
  · simp [hab]
theorem EqF.struct {β : Type} [DecidableEq α] [DecidableEq β] {fs : Array Field} {k : Nat} {g : β → α} (hg : ∀ x y, g x = g y → x = y) (hu : P.underlying t = some (.struct fs)) (hp : P.stoodInHeld t = false) (hs : Sz P t e.sz) (h : EqFs P fs.toList 0 e k) : EqF P t (Fl.iso e g) (k + 1) := by
  have ho : Agg P t := by unfold Agg; rw [hu]; rfl
  have hf : P.fieldsOf t = fs := by simp [Program.fieldsOf, hu]
  intro D xs ys i a b w h1 h2
  have h1 : (xs.toList.drop i).take e.sz = e.f (g a) := h1
  have h2 : (ys.toList.drop i).take e.sz = e.f (g b) := h2
  refine ⟨_, _, part_agg ho hs w, part_agg ho hs w, ?_⟩
  rw [h1, h2]
  have e0 : D + (k + 1) = (D + k) + 1 := by omega
  rw [e0, run_equalIn_struct w (D + k) t _ _ (by rw [hf]; exact hu) hp, hf, h D _ _ (g a) (g b) w (by simp [List.take_of_length_le, e.len]) (by simp [List.take_of_length_le, e.len])]
  congr 1
  rw [decide_eq_decide]
  exact ⟨hg a b, fun h => by rw [h]⟩
end
end Go.Lf
