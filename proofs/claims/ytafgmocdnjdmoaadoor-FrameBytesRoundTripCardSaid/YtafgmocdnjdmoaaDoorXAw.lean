/- What the walks and the laws stand on; no condition but those that stand in the statements. -/
import Derived.Test.YtafgmocdnjdmoaaDoorC22
import Derived.Test.YtafgmocdnjdmoaaDoorLf7
namespace Go.Lf
open Go.OB Go.Fr1
/-- The small frame of chapter 1 is right. -/
def X_framed : Option Bool := some true
/-- The sync words. -/
def G_frame_syncs : Arr 4 Int := ⟨[583, 1464, 2631, 3512], rfl⟩
/-- A frame of natural numbers. -/
def en (g : List Nat) (h : g.length = 64) : Arr 64 Int := ⟨g.map fun n : Nat => (n : Int), by rw [List.length_map]; exact h⟩
theorem newR_len (n : Int) (d : List Int) : (newR n d).1.length = 64 := by
  have hz : zero64.length = 64 := by simp [zero64]
  unfold newR
  split
  · exact hz
  split
  · exact hz
  split
  · show (newN _ _).length = 64
    unfold newN; rw [finN_len]; exact newF_len _ _
  · exact hz
theorem newR_small (n : Int) (d : List Int) : Small (newR n d).1 := by
  have hz : Small zero64 := zero_small
  unfold newR
  split
  · exact hz
  split
  · exact hz
  split
  · rename_i c1 c2 c3
    show Small (newN _ _)
    unfold newN; exact finN_small (newF_small (by omega) c3)
  · exact hz
/-- New frames: both programs make them alike. -/
def X_New (n : Int) (d : List Int) : Option (Arr 64 Int × Int) := some (en (newR n d).1 (newR_len n d), (newR n d).2)
/-- The numbers of a frame, if they are words. -/
def natF (f : Arr 64 Int) : Option (List Nat) := if ∀ x ∈ f.l, 0 ≤ x ∧ x < 65536 then some (f.l.map Int.toNat) else none
theorem natF_some {f : Arr 64 Int} {g : List Nat} (h : natF f = some g) : Small g ∧ ∃ hl : g.length = 64, f = en g hl := by
  unfold natF at h
  split at h
  · rename_i c
    cases h
    refine ⟨fun i => ?_, by rw [List.length_map]; exact f.h, ?_⟩
    · unfold wd
      rw [List.getD_eq_getElem?_getD, List.getElem?_map]
      cases hx : f.l[i]? with
      | none => simp
      | some x => have := c x (List.mem_of_getElem? hx); simp; omega
    · apply Arr.ext
      show f.l = (f.l.map Int.toNat).map _
      rw [List.map_map]
      conv => lhs; rw [← List.map_id f.l]
      apply List.map_congr_left
      intro x hx
      have := c x hx
      simp; omega
  · cases h
theorem natF_en {g : List Nat} {h : g.length = 64} (hs : Small g) : natF (en g h) = some g := by
  unfold natF
  rw [if_pos]
  · congr 1
    show (g.map _).map _ = g
    rw [List.map_map]
    conv => rhs; rw [← List.map_id g]
    apply List.map_congr_left
    intro x _
    simp
  · intro x hx
    obtain ⟨y, hy, rfl⟩ := List.mem_map.1 hx
    obtain ⟨i, hi⟩ := List.getElem?_of_mem hy
    have := hs i
    unfold wd at this
    rw [List.getD_eq_getElem?_getD, hi] at this
    simp at this
    omega
theorem en_cells {g : List Nat} {h : g.length = 64} : (Fl.arr 64 (Fl.int .u16)).f (en g h) = wds g := by
  show (g.map _).flatMap _ = wds g
  unfold wds
  rw [List.flatMap_map]
  induction g with
  | nil => rfl
  | cons a g ih =>
    have : ∀ l : List Nat, l.flatMap (fun n : Nat => (Fl.int .u16).f (n : Int)) = l.map fun n : Nat => Value.int .u16 (n : Int) := by
      intro l
      induction l with
      | nil => rfl
      | cons b l ih => simp only [List.flatMap_cons, ih]; rfl
    exact this _
def X_check (f : Arr 64 Int) : Option Int := (natF f).map fun g => ((checkN g : Nat) : Int)
def X_sum (f : Arr 64 Int) : Option Int := (natF f).map fun g => ((sumN g : Nat) : Int)
def enO (g : List Nat) : Option (Arr 64 Int) := if h : g.length = 64 then some (en g h) else none
theorem enO_eq {g : List Nat} (h : g.length = 64) : enO g = some (en g h) := by unfold enO; rw [dif_pos h]
def X_sealed (f : Arr 64 Int) : Option (Arr 64 Int) := (natF f).bind fun g => enO (finN (sealF g))
def X_odd (n : Int) : Option Bool := if 0 ≤ n ∧ n < 65536 then some (decide (oddN n.toNat)) else none
def X_word (d : Int) : Option Int := if 0 ≤ d ∧ d < 2048 then some ((wordN d.toNat : Nat) : Int) else none
end Go.Lf
namespace Go.Proofs.YtafgmocdnjdmoaaDoor
open Go.RowKit Go.OB Go.Lf Go.Fr1
section
variable {O S : List Nat} {w w' : World}
theorem tabAt {F : Nat → Prop} (hi : (Fz.at 0 0 ((Fl.arr 4 (Fl.int .u16)).f G_frame_syncs)).p F w) : Cells w ⟨0, 0, none⟩ (wds tab) ∧ 0 < w.heap.size := ⟨hi.2.2, hi.2.1⟩
end
theorem X_framed_w (r : Bool) (hF : X_framed = some r) (O S : List Nat) (w : World) (H : Hd O w w S [.fz (.at 0 0 ((Fl.arr 4 (Fl.int .u16)).f G_frame_syncs))]) :
    Calls Tryd.prog 21 ([] : List Value).toArray w fun e w' => e = .returned (.bool r) ∧ Hd O w w' S [] := by
  have hi := tabAt (H.item (i := 0) rfl)
  cases hF
  exact (framed_c w hi.1 hi.2).mono fun e w' ⟨h1, h2⟩ => ⟨h1, (H.step (Only.of_below h2)).pick [] (by decide)⟩
theorem X_New_w (p0 : Int) (p1 : List Int) (v1 : Value) (r : Arr 64 Int × Int) (hF : X_New p0 p1 = some r) (O S : List Nat) (w : World) (H : Hd O w w S [.fz (.sl (Rp.int .i64) v1 p1), .fz (.at 0 0 ((Fl.arr 4 (Fl.int .u16)).f G_frame_syncs))]) :
    Calls Tryd.prog 32 ([.int .i64 p0, v1] : List Value).toArray w fun e w' => e = .returned (.tuple #[.agg ((Fl.arr 64 (Fl.int .u16)).f r.1).toArray, .int .i64 r.2]) ∧ Hd O w w' S [] := by
  have hi := tabAt (H.item (i := 1) rfl)
  obtain ⟨xs, h1, h2, -⟩ := H.item (i := 0) rfl
  cases hF
  rw [en_cells]
  refine (New_c p0 v1 _ p1 rfl w hi.1 ?_ hi.2).mono fun e w' ⟨h1, h2⟩ => ⟨h1, (H.step (Only.of_below h2)).pick [] (by decide)⟩
  rw [rows_ints.1 h1] at h2
  exact h2
theorem X_RNew_w (p0 : Int) (p1 : List Int) (v1 : Value) (r : Arr 64 Int × Int) (hF : X_New p0 p1 = some r) (O S : List Nat) (w : World) (H : Hd O w w S [.fz (.sl (Rp.int .i64) v1 p1)]) :
    Calls Tryd.prog 45 ([.int .i64 p0, v1] : List Value).toArray w fun e w' => e = .returned (.tuple #[.agg ((Fl.arr 64 (Fl.int .u16)).f r.1).toArray, .int .i64 r.2]) ∧ Hd O w w' S [] := by
  obtain ⟨xs, h1, h2, -⟩ := H.item (i := 0) rfl
  cases hF
  rw [en_cells]
  refine (NewRef_c p0 v1 _ p1 rfl w ?_).mono fun e w' ⟨h1, h2⟩ => ⟨h1, (H.step (Only.of_below h2)).pick [] (by decide)⟩
  rw [rows_ints.1 h1] at h2
  exact h2
theorem X_check_w (p0 : Arr 64 Int) (r : Int) (hF : X_check p0 = some r) (O S : List Nat) (w : World) (H : Hd O w w S []) :
    Calls Tryd.prog 103 ([.agg ((Fl.arr 64 (Fl.int .u16)).f p0).toArray] : List Value).toArray w fun e w' => e = .returned (.int .i64 r) ∧ Hd O w w' S [] := by
  unfold X_check at hF
  obtain ⟨g, hg, rfl⟩ := Option.map_eq_some_iff.1 hF
  obtain ⟨hs, hl, rfl⟩ := natF_some hg
  rw [en_cells]
  exact (checkRef_c g hl hs w).mono fun e w' ⟨h1, h2⟩ => ⟨h1, (H.step (Only.of_below h2)).pick [] (by decide)⟩
theorem X_sum_w (p0 : Arr 64 Int) (r : Int) (hF : X_sum p0 = some r) (O S : List Nat) (w : World) (H : Hd O w w S []) :
    Calls Tryd.prog 102 ([.agg ((Fl.arr 64 (Fl.int .u16)).f p0).toArray] : List Value).toArray w fun e w' => e = .returned (.int .i64 r) ∧ Hd O w w' S [] := by
  unfold X_sum at hF
  obtain ⟨g, hg, rfl⟩ := Option.map_eq_some_iff.1 hF
  obtain ⟨hs, hl, rfl⟩ := natF_some hg
  rw [en_cells]
  exact (sumRef_c g hl hs w).mono fun e w' ⟨h1, h2⟩ => ⟨h1, (H.step (Only.of_below h2)).pick [] (by decide)⟩
theorem X_sealed_w (p0 : Arr 64 Int) (r : Arr 64 Int) (hF : X_sealed p0 = some r) (O S : List Nat) (w : World) (H : Hd O w w S []) :
    Calls Tryd.prog 98 ([.agg ((Fl.arr 64 (Fl.int .u16)).f p0).toArray] : List Value).toArray w fun e w' => e = .returned (.agg ((Fl.arr 64 (Fl.int .u16)).f r).toArray) ∧ Hd O w w' S [] := by
  unfold X_sealed at hF
  obtain ⟨g, hg, hr⟩ := Option.bind_eq_some_iff.1 hF
  obtain ⟨hs, hl, rfl⟩ := natF_some hg
  rw [enO_eq (show (finN (sealF g)).length = 64 by rw [finN_len, sealF_len]; exact hl)] at hr
  cases hr
  rw [en_cells, en_cells]
  exact (sealedRef_c g hl hs w).mono fun e w' ⟨h1, h2⟩ => ⟨h1, (H.step (Only.of_below h2)).pick [] (by decide)⟩
theorem X_odd_w (p0 : Int) (r : Bool) (hF : X_odd p0 = some r) (O S : List Nat) (w : World) (H : Hd O w w S []) :
    Calls Tryd.prog 87 ([.int .i64 p0] : List Value).toArray w fun e w' => e = .returned (.bool r) ∧ Hd O w w' S [] := by
  unfold X_odd at hF
  split at hF
  · rename_i c
    have hr := Option.some.inj hF
    subst hr
    exact (oddR_c p0 p0.toNat (by omega) (by omega) w).mono fun e w' ⟨h1, h2⟩ => ⟨h1, (H.step (Only.of_below h2)).pick [] (by decide)⟩
  · cases hF
theorem X_word_w (p0 : Int) (r : Int) (hF : X_word p0 = some r) (O S : List Nat) (w : World) (H : Hd O w w S []) :
    Calls Tryd.prog 84 ([.int .i64 p0] : List Value).toArray w fun e w' => e = .returned (.int .i64 r) ∧ Hd O w w' S [] := by
  unfold X_word at hF
  split at hF
  · rename_i c
    have hr := Option.some.inj hF
    subst hr
    exact (wordRef_c p0 p0.toNat (by omega) (by omega) w).mono fun e w' ⟨h1, h2⟩ => ⟨h1, (H.step (Only.of_below h2)).pick [] (by decide)⟩
  · cases hF
end Go.Proofs.YtafgmocdnjdmoaaDoor
