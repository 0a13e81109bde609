/- Frames compared. -/
import Derived.Test.YtafgmocdnjdmoaaDoorFrm
import Derived.Test.YtafgmocdnjdmoaaDoorFrC
import Derived.Test.YtafgmocdnjdmoaaDoorOps4
namespace Go.Fr1
open Go.RowKit Go.OB
def lst (k : IntKind) (f : List Nat) : List Value := f.map fun n : Nat => Value.int k (n : Int)
theorem lst_int (k : IntKind) (f : List Nat) : lst k f = (f.map fun n : Nat => (n : Int)).map (Value.int k) := by simp [lst]
theorem ints_inj {f g : List Nat} : (f.map fun n : Nat => (n : Int)) = g.map (fun n : Nat => (n : Int)) ↔ f = g := by
  constructor
  · intro h
    have := congrArg (List.map Int.toNat) h
    simpa [List.map_map, Function.comp_def] using this
  · rintro rfl; rfl
section
variable {P : Program} {ρ : Env} {w : World} {d : Option Tmp} {x y : Operand} {t u ty e : TypeId} {pos : String} {af : Array Edge} {g : Option (Nat × Bool)} {n : Nat} {k : IntKind}
theorem eqarr_lst {f h : List Nat} (hu : P.underlying t = some (.array n e)) (he : P.underlying e = some (.int k)) (hs : Sz P e 1) (hf : f.length = n) (hh : h.length = n) :
    (Op.equalIn 10000 t (.agg (lst k f).toArray) (.agg (lst k h).toArray)).run P w = .ok (decide (f = h)) w := by
  have := run_eqarr (w := w) hu he hs 9998 (f.map fun n : Nat => (n : Int)) (h.map fun n : Nat => (n : Int)) (by simpa using hf) (by simpa using hh)
  rw [lst_int, lst_int, this]
  congr 1
  rw [decide_eq_decide]; exact ints_inj
theorem Do_eqlst {f h : List Nat} (hu : P.underlying t = some (.array n e)) (he : P.underlying e = some (.int k)) (hs : Sz P e 1) (hg : P.eqGuardType P.depth t = false) (hx : ev ρ x = .agg (lst k f).toArray) (hy : ev ρ y = .agg (lst k h).toArray) (hf : f.length = n) (hh : h.length = n) :
    Do P ⟨d, .binOp .eql t x y u, ty, pos, af, g⟩ ρ w (.bool (decide (f = h))) w := Do_eqagg hg hx hy (eqarr_lst hu he hs hf hh)
theorem Do_nelst {f h : List Nat} (hu : P.underlying t = some (.array n e)) (he : P.underlying e = some (.int k)) (hs : Sz P e 1) (hg : P.eqGuardType P.depth t = false) (hx : ev ρ x = .agg (lst k f).toArray) (hy : ev ρ y = .agg (lst k h).toArray) (hf : f.length = n) (hh : h.length = n) :
    Do P ⟨d, .binOp .neq t x y u, ty, pos, af, g⟩ ρ w (.bool (decide (¬ f = h))) w := by
  have := Do_neagg (P := P) (w := w) (d := d) (u := u) (ty := ty) (pos := pos) (af := af) (g := g) hg hx hy (eqarr_lst hu he hs hf hh)
  rwa [show (!decide (f = h)) = decide (¬ f = h) by simp] at this
end
/-- The rest of a slice of bytes. -/
theorem _root_.Go.OB.SlR.dropb {w : World} {b o m c : Nat} {xs : List Nat} (h : SlR w (.slice (some ⟨b, o, none⟩) m c) 1 m (bys xs)) (a : Nat) (ha : a < m) : SlR w (.slice (some ⟨b, o + a, none⟩) (m - a) (c - a)) 1 (m - a) (bys (xs.drop a)) := by
  have hx := h.1
  rw [bys_length] at hx
  obtain ⟨h1, h2, _⟩ := h.inner
  refine ⟨by rw [bys_length, List.length_drop]; omega, .inr ⟨_, _, rfl, by omega, by rw [maxLen_eq]; omega, fun _ => rfl, Cells.off (SlR.at_ h) a⟩⟩
/-- A part of a slice of bytes. -/
theorem _root_.Go.OB.SlR.cutb {w : World} {b o m c : Nat} {xs : List Nat} (h : SlR w (.slice (some ⟨b, o, none⟩) m c) 1 m (bys xs)) (a n : Nat) (ha : a + n ≤ m) (hn : 0 < n) : SlR w (.slice (some ⟨b, o + a, none⟩) n (c - a)) 1 n (bys ((xs.drop a).take n)) := by
  have hx := h.1
  rw [bys_length] at hx
  obtain ⟨h1, h2, _⟩ := h.inner
  refine ⟨by rw [bys_length, List.length_take, List.length_drop]; omega, .inr ⟨_, _, rfl, by omega, by rw [maxLen_eq]; omega, fun _ => rfl, ?_⟩⟩
  intro i v hv
  refine Cells.off (SlR.at_ h) a i v ?_
  have : i < n := by
    have := (List.getElem?_eq_some_iff.1 hv).1
    rw [bys_length, List.length_take] at this; omega
  simp only [bys, List.getElem?_map, List.getElem?_take, if_pos this] at hv ⊢
  exact hv
theorem byr_splice {L : List Nat} {R : List Value} {o : Nat} {l : List Nat} (h : o + l.length ≤ L.length) : splice (byr L R) o (bys l) = byr (L.take o ++ l ++ L.drop (o + l.length)) R := by
  unfold splice byr bys
  rw [List.take_append_of_le_length (by simp; omega), List.drop_append_of_le_length (by simp; omega)]
  simp
end Go.Fr1
