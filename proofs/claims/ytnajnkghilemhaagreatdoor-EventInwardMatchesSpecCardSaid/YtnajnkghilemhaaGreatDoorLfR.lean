/- Walks: what each function computes, for every argument; no condition but those that stand in the statements. -/
import Derived.Test.YtnajnkghilemhaaGreatDoorLf8
import Derived.WideLaws
import Derived.Lib.AppendStr
namespace Go.Lf
section
variable {α : Type} {F : Nat → Prop} {w : World}
def Rp.bot (n : Nat) : Rp α := ⟨n, fun _ _ _ _ => False, fun h => h.elim, fun h => h.elim, fun _ h => h⟩
def Rp.le (a b : Rp α) : Prop := a.sz = b.sz ∧ ∀ F w cs x, a.rd F w cs x → b.rd F w cs x
theorem rows_le {a b : Rp α} (h : a.le b) : ∀ {l : List α} {cs : List Value}, rows a F w cs l → rows b F w cs l
  | [], _, q => q
  | _ :: _, _, ⟨c, d, e, h1, h2⟩ => ⟨c, d, e, h.2 _ _ _ _ h1, rows_le h h2⟩
theorem slf_le {a b : Rp α} (h : a.le b) {v : Value} {l : List α} : SlF a F w v l → SlF b F w v l := fun ⟨xs, r1, r2, r3⟩ => ⟨xs, rows_le h r1, h.1 ▸ r2, r3⟩
def Rp.lim (f : Nat → Rp α) (n : Nat) (h : ∀ i, (f i).sz = n) : Rp α :=
  ⟨n, fun F w cs x => ∃ i, (f i).rd F w cs x, fun ⟨i, q⟩ => ((f i).len q).trans (h i), fun ⟨i, q⟩ => (f i).one q, fun hs ⟨i, q⟩ => ⟨i, (f i).mono hs q⟩⟩
theorem le_lim {f : Nat → Rp α} {n : Nat} {h : ∀ i, (f i).sz = n} (i : Nat) : (f i).le (Rp.lim f n h) := ⟨h i, fun _ _ _ _ q => ⟨i, q⟩⟩
theorem le_up {f : Nat → Rp α} (hm : ∀ i, (f i).le (f (i + 1))) {i : Nat} : ∀ d, (f i).le (f (i + d))
  | 0 => ⟨rfl, fun _ _ _ _ q => q⟩
  | d + 1 => ⟨(le_up hm d).1.trans (hm (i + d)).1, fun _ _ _ _ q => (hm (i + d)).2 _ _ _ _ ((le_up hm d).2 _ _ _ _ q)⟩
theorem rows_lim {f : Nat → Rp α} {n : Nat} {h : ∀ i, (f i).sz = n} (hm : ∀ i, (f i).le (f (i + 1))) : ∀ {l : List α} {cs : List Value}, rows (Rp.lim f n h) F w cs l → ∃ i, rows (f i) F w cs l
  | [], _, q => ⟨0, q⟩
  | _ :: _, _, ⟨c, d, e, ⟨i, h1⟩, h2⟩ => by
    obtain ⟨j, h3⟩ := rows_lim hm h2
    refine ⟨i + j, c, d, e, (le_up hm j).2 _ _ _ _ h1, ?_⟩
    have q := rows_le (le_up hm (i := j) i) h3
    rwa [Nat.add_comm] at q
theorem slf_lim {f : Nat → Rp α} {n : Nat} {h : ∀ i, (f i).sz = n} (hm : ∀ i, (f i).le (f (i + 1))) {v : Value} {l : List α} : SlF (Rp.lim f n h) F w v l → ∃ i, SlF (f i) F w v l := fun ⟨xs, r1, r2, r3⟩ => by
  obtain ⟨i, q⟩ := rows_lim hm r1
  exact ⟨i, xs, q, by rw [h i]; exact r2, r3⟩
end
end Go.Lf
namespace Go.Lf
open Go.RowKit Go.OB
section
variable {P : Program} {ρ : Env} {w : World} {d : Option Tmp} {x lo' hi' : Operand} {t u ty : TypeId} {pos : String} {af : Array Edge} {g : Option (Nat × Bool)} {k kl kh : IntKind} {lo hi q : Int} {s1 s2 : Str}
theorem bs_cut (s : Str) (i j : Nat) : (bs s).extract i j = bs ((s.drop i).take (j - i)) := by
  apply ByteArray.ext
  unfold bs
  simp only [ByteArray.data_extract, List.extract_toArray, List.extract_eq_take_drop]
theorem run_cut (hu : P.underlying t = some .string) (hl : 0 ≤ lo) (hh : lo ≤ hi) (hs : hi ≤ s1.length) (l h : Option Value) (e1 : h = none ∧ hi = (s1.length : Int) ∨ h = some (.int kh hi)) (e2 : l = none ∧ lo = 0 ∨ l = some (.int kl lo)) :
    (Instr.slice t (.string (bs s1)) l h none).run P w = .ok (.string (bs ((s1.drop lo.toNat).take (hi - lo).toNat))) w := by
  have hz : ((bs s1).size : Int) = s1.length := by rw [bs_size]
  have e : (hi - lo).toNat = hi.toNat - lo.toNat := by omega
  have h0 : 0 ≤ hi := by omega
  have h1 : (hi.toNat : Int) = hi := Int.toNat_of_nonneg h0
  rw [e]
  have hb := bs_cut s1 lo.toNat hi.toNat
  rw [← hb]
  rcases e1 with ⟨rfl, e1⟩ | rfl <;> rcases e2 with ⟨rfl, e2⟩ | rfl
  · rw [hb, e2, e1]; simp [Instr.slice, Instr.sliceBounds, run_underlying hu]
  · have h3 : lo ≤ s1.length := by omega
    simp [Instr.slice, Instr.sliceBounds, Instr.sliceBound, asIntOf, run_underlying hu, e1, bs_size, hl, h3]
  · simp [Instr.slice, Instr.sliceBounds, Instr.sliceBound, asIntOf, run_underlying hu, bs_size, h0, hs, e2]
  · simp [Instr.slice, Instr.sliceBounds, Instr.sliceBound, asIntOf, run_underlying hu, bs_size, h0, hs, hl, h1, hh]
theorem Do_cut_lh (hu : P.underlying t = some .string) (hx : ev ρ x = .string (bs s1)) (hl : ev ρ lo' = .int kl lo) (hh : ev ρ hi' = .int kh hi) (h : sub' s1 lo hi = some s2) : Do P ⟨d, .slice t x (some lo') (some hi') none, ty, pos, af, g⟩ ρ w (.string (bs s2)) w := by
  obtain ⟨h0, h1, h2, rfl⟩ := sub_some h
  have hn : ∀ n e, P.underlying t ≠ some (.array n e) := by intro n e q; rw [hu] at q; cases q
  unfold Do
  simp [execOp, hx, hl, hh, run_sliceAt_string w t _ _ _ _ hu, run_cut hu h0 h1 h2 _ _ (.inr rfl) (.inr rfl)]
theorem Do_cut_l (hu : P.underlying t = some .string) (hx : ev ρ x = .string (bs s1)) (hl : ev ρ lo' = .int kl lo) (h : sub' s1 lo (s1.length : Int) = some s2) : Do P ⟨d, .slice t x (some lo') none none, ty, pos, af, g⟩ ρ w (.string (bs s2)) w := by
  obtain ⟨h0, h1, h2, rfl⟩ := sub_some h
  unfold Do
  simp [execOp, hx, hl, run_sliceAt_string w t _ _ _ _ hu, run_cut (kl := kl) (kh := .i64) (hi := s1.length) hu h0 h1 h2 (some (.int kl lo)) none (.inl ⟨rfl, rfl⟩) (.inr rfl)]
theorem Do_cut_h (hu : P.underlying t = some .string) (hx : ev ρ x = .string (bs s1)) (hh : ev ρ hi' = .int kh hi) (h : sub' s1 0 hi = some s2) : Do P ⟨d, .slice t x none (some hi') none, ty, pos, af, g⟩ ρ w (.string (bs s2)) w := by
  obtain ⟨h0, h1, h2, rfl⟩ := sub_some h
  unfold Do
  simp [execOp, hx, hh, run_sliceAt_string w t _ _ _ _ hu, run_cut (kl := .i64) (kh := kh) (lo := 0) hu h0 h1 h2 none (some (.int kh hi)) (.inr rfl) (.inl ⟨rfl, rfl⟩)]
end
section
variable {P : Program} {ρ : Env} {w : World} {F : Nat → Prop} {d : Option Tmp} {x : Operand} {t u ty : TypeId} {pos : String} {af : Array Edge} {g : Option (Nat × Bool)} {α : Type} {n b o : Nat} {e : Fl α} {X : Arr n α}
theorem Lx_sliceAA {r : Rp α} (hr : ∀ F w c x, r.rd F w c x ↔ c = e.f x) (hrs : r.sz = e.sz) (hu : P.underlying t = some (.array n u)) (hz : Sz P u e.sz) (hF : F b) (hb : b < w.heap.size) (hc : Cells w ⟨b, o, none⟩ ((Fl.arr n e).f X)) (hx : ev ρ x = .pointer (some ⟨b, o, none⟩)) (hmax : n ≤ 9223372036854775807) :
    ∃ v', (∀ w', Do P ⟨d, .slice t x none none none, ty, pos, af, g⟩ ρ w' v' w') ∧ SlF r F w v' X.l := by
  refine ⟨.slice (some ⟨b, o, none⟩) n n, fun w' => Do_slicea hu hz hx, ?_⟩
  have hrow : ∀ (l : List α), rows r F w (l.flatMap e.f) l := by
    intro l
    induction l with
    | nil => rfl
    | cons x l ih => exact ⟨e.f x, l.flatMap e.f, rfl, (hr _ _ _ _).2 rfl, ih⟩
  refine ⟨_, hrow _, ⟨?_, .inr ⟨⟨b, o, none⟩, n, by rw [X.h], by rw [X.h]; omega, by rw [maxLen_eq]; omega, fun _ => rfl, ?_⟩⟩, fun _ b' hb' => ?_⟩
  · rw [fl_flat_len, hrs]
  · exact hc
  · obtain rfl : b' = b := by simpa [sblk] using hb'.symm
    exact ⟨hF, hb⟩
end
def isIf (v : Value) (b : Bool) : Prop := match b with
  | true => v = .nilIface
  | false => ∃ T x, v = .iface T x
def Fz.ic (v : Value) (b : Bool) : Fz := ⟨fun _ _ => isIf v b, fun _ h => h⟩
section
variable {P : Program} {ρ : Env} {w : World} {d : Option Tmp} {x y : Operand} {t u ty : TypeId} {pos : String} {af : Array Edge} {g : Option (Nat × Bool)} {v : Value} {b : Bool}
theorem Do_eqlif (hu : P.underlying t = some (.interface (P.methodsAt t))) (h : isIf v b) (hx : ev ρ x = v) : Do P ⟨d, .binOp .eql t x (.const .nilIface) u, ty, pos, af, g⟩ ρ w (.bool b) w := by
  have hy : ev ρ (.const .nilIface) = .nilIface := rfl
  cases b with
  | true => obtain rfl : v = .nilIface := h; unfold Do; simp [execOp, hx, hy, eqGuard_nil_constR, run_eql_nil_nil w t hu]
  | false => obtain ⟨T, z, rfl⟩ := h; unfold Do; simp [execOp, hx, hy, eqGuard_at_iface, run_eql_held_nil w t T z hu]
end
end Go.Lf
namespace Go.Lf
open Go.RowKit Go.OB
section
variable {P : Program} {ρ : Env} {w : World} {d : Option Tmp} {x : Operand} {t u ty : TypeId} {pos : String} {af : Array Edge} {g : Option (Nat × Bool)} {m n i : Nat} {v : Value} {xs ys : List Value}
def fieldOf (P : Program) (t : TypeId) (i : Nat) : Option (Nat × TypeId) := match P.underlying t with
  | some (.struct fs) => fs[i]?.map fun f => (f.offset, f.type)
  | _ => none
theorem run_field (h : fieldOf P t i = some (m, u)) (w : World) : (Instr.field t (.agg xs.toArray) i).run P w = (part u xs.toArray m).run P w := by
  unfold fieldOf at h
  split at h
  · rename_i fs hu
    cases hf : fs[i]? with
    | none => rw [hf] at h; cases h
    | some f =>
      rw [hf] at h
      simp only [Option.map_some, Option.some.injEq, Prod.mk.injEq] at h
      obtain ⟨rfl, rfl⟩ := h
      simp [Instr.field, run_underlying hu, hf, asAgg]
  · cases h
theorem Do_field1 (h : fieldOf P t i = some (m, u)) (ho : OneC P u) (hx : ev ρ x = .agg xs.toArray) (hv : (xs.drop m).take 1 = [v]) : Do P ⟨d, .field t x i, ty, pos, af, g⟩ ρ w v w := by
  unfold Do
  simp [execOp, hx, run_field h, part_one ho (xs := xs.toArray) (i := m) (v := v) (by simpa using hv) w]
theorem Do_makeFuncB {f : FuncId} {first : Array Operand} {us : List Value} (hc : first.toList.map (ev ρ) = us) : Do P ⟨d, .makeFunc (.func f) first #[], ty, pos, af, g⟩ ρ w (.func (.func f) us.toArray #[]) w := by
  have e : first.map (ev ρ) = us.toArray := by rw [← hc]; apply Array.ext'; simp
  unfold Do
  simp [execOp, Instr.makeFunc, e]
end
def Fz.gi (b : Nat) : Fz := ⟨fun F w => F b ∧ b < w.heap.size ∧ ∃ v, Cells w ⟨b, 0, none⟩ [v] ∧ (v = .nilIface ∨ ∃ T x, v = .iface T x), fun hs ⟨h1, h2, v, h3, h4⟩ => have q := Cells.same hs h1 h2 h3; ⟨q.1, q.2.1, v, q.2.2, h4⟩⟩
end Go.Lf
