/- Walks: what each function computes, for every argument; no condition but those that stand in the statements. -/
import Derived.Test.YtbjhondbheijiaaGreatDoorYNa
import Derived.Test.YtbjhondbheijiaaGreatDoorBitsx
import Derived.Lib.Mul64
import Derived.Lib.ItoaNum
import Derived.Laws.Bits64b
namespace Go.Lf
section
variable {α β γ σ : Type}
theorem loopN_inv {body : (γ → Option β) → γ → Option β} (enc : Nat → σ → γ) (l : List α) (I : Nat → σ → Prop) (R : β → Prop)
    (h : ∀ k i s x, l[i]? = some x → i < l.length → I i s → ∃ s', I (i + 1) s' ∧ body k (enc i s) = k (enc (i + 1) s')) (hx : ∀ k s, I l.length s → ∃ r, body k (enc l.length s) = some r ∧ R r) :
    ∀ (d i : Nat) (s : σ) (n : Nat), i + d = l.length → d < n → I i s → ∃ r, loopN body n (enc i s) = some r ∧ R r
  | 0, i, s, n, hd, hn, hI => by
    obtain ⟨m, rfl⟩ : ∃ m, n = m + 1 := ⟨n - 1, by omega⟩
    obtain rfl : i = l.length := by omega
    rw [loopN]; exact hx _ s hI
  | d + 1, i, s, n, hd, hn, hI => by
    obtain ⟨m, rfl⟩ : ∃ m, n = m + 1 := ⟨n - 1, by omega⟩
    have hi : i < l.length := by omega
    obtain ⟨s', h1, h2⟩ := h (loopN body m) i s l[i] (List.getElem?_eq_getElem hi) hi hI
    rw [loopN, h2]
    exact loopN_inv enc l I R h hx d (i + 1) s' m (by omega) (by omega) h1
/-- A loop that keeps an invariant, whose yield is known. -/
theorem loopO_eq {body : (γ → Option β) → γ → Option β} (enc : Nat → σ → γ) (l : List α) (I : Nat → σ → Prop) (r : β) (hl : l.length ≤ 9223372036854775807)
    (h : ∀ k i s x, l[i]? = some x → i < l.length → I i s → ∃ s', I (i + 1) s' ∧ body k (enc i s) = k (enc (i + 1) s')) (hx : ∀ k s, I l.length s → body k (enc l.length s) = some r) (s : σ) (h0 : I 0 s) :
    loopO body (enc 0 s) = some r := by
  obtain ⟨r', h1, h2⟩ := loopN_inv enc l I (fun x => x = r) h (fun k s hI => ⟨r, hx k s hI, rfl⟩) l.length 0 s FU (by omega) (FU_big hl) h0
  unfold loopO
  rw [h1, h2]
end
theorem appN {α : Type} {n : Nat} (p q : List α) (h : (p.length + q.length) * n ≤ 140737488355328) (h1 : p.length + q.length ≤ 140737488355328) : app' n p q = some (p ++ q) := by
  unfold app'
  rw [if_pos ⟨by rw [Go.OB.maxLen_eq]; omega, h⟩]
/-- What is wrong with a list of flights. -/
def lfF (l : List Flight) : Option Int := if decide (300 < (l.length : Int)) then some 3 else findO (fun _ f => if fltC f = 0 then none else some (some (fltC f))) (some 0) l 0
theorem checkFlights_eq (l : List Flight) (h : okL okFlight l) : F_fleet_checkFlights l = lfF l := by
  unfold F_fleet_checkFlights lfF
  simp only [yE, joinO_eq, iteB_ite]
  congr 1
  unfold F_fleet_checkFlights_L1
  refine wE l _ _ h.1 ?_ ?_
  · intro kk i x hx hi
    simp only [yE]
    rw [xP hi, yP, wC hx, zL, CheckFlight_eq x (h.2 x (List.mem_of_getElem? hx)), zL, wrap1 hi h.1, iteB_dec]
    by_cases c : fltC x = 0 <;> simp [c]
  · intro kk; simp only [yE]; rw [xQ]; rfl
theorem listFault_eq (l : List Flight) (h : okL okFlight l) : F_ref9_listFault l = lfF l := by
  unfold F_ref9_listFault lfF
  simp only [yE, joinO_eq, iteB_ite]
  congr 1
  unfold F_ref9_listFault_L1
  refine wE l _ _ h.1 ?_ ?_
  · intro kk i x hx hi
    simp only [yE]
    rw [xP hi, yP, wC hx, zL, rCheckFlight_eq x (h.2 x (List.mem_of_getElem? hx)), zL, wrap1 hi h.1, iteB_dec]
    by_cases c : fltC x = 0 <;> simp [c]
  · intro kk; simp only [yE]; rw [xQ]; rfl
theorem lfF_some (l : List Flight) : ∃ r, lfF l = some r := by
  unfold lfF
  split
  · exact ⟨_, rfl⟩
  · have : ∀ (m : List Flight) (i : Nat), ∃ r, findO (fun _ f => if fltC f = 0 then none else some (some (fltC f))) (some 0) m i = some r := by
      intro m
      induction m with
      | nil => intro i; exact ⟨_, rfl⟩
      | cons x m ih =>
        intro i
        rw [findO]
        by_cases c : fltC x = 0
        · simp only [c, if_true]; exact ih (i + 1)
        · simp only [c, if_false]; exact ⟨_, rfl⟩
    exact this l 0
theorem lfF_zero {l : List Flight} (h : lfF l = some 0) : l.length ≤ 300 ∧ ∀ f ∈ l, fltC f = 0 := by
  unfold lfF at h
  by_cases c : 300 < (l.length : Int)
  · rw [decide_eq_true c, if_pos rfl] at h; cases h
  rw [decide_eq_false c, if_neg Bool.false_ne_true] at h
  refine ⟨by omega, ?_⟩
  have : ∀ (m : List Flight) (i : Nat), findO (fun _ f => if fltC f = 0 then none else some (some (fltC f))) (some 0) m i = some 0 → ∀ f ∈ m, fltC f = 0 := by
    intro m
    induction m with
    | nil => intro i _ f hf; cases hf
    | cons x m ih =>
      intro i hm f hf
      rw [findO] at hm
      by_cases c : fltC x = 0
      · simp only [c, if_true] at hm
        rcases List.mem_cons.1 hf with rfl | hf
        · exact c
        · exact ih (i + 1) hm f hf
      · simp only [c, if_false] at hm
        exact absurd (Option.some.inj hm) c
  exact this l 0 h
/-- The peak of a flight under a mask, with the Den. -/
def pf (m : Mask) (s : Str) (f : Flight) : Option (Int × Int) := if (pkOf (mfl m f) s).2 = true then some ((pkOf (mfl m f) s).1, dnOf (mfl m f) s) else none
theorem pk_find {f : Flight} {s : Str} (h : (pkOf f s).2 = true) : ∃ t, (f.Tracks.find? fun t => decide (t.Name = s)) = some t ∧ dnOf f s = t.Series.Den := by
  unfold pkOf at h
  unfold dnOf
  cases e : f.Tracks.find? fun t => decide (t.Name = s) with
  | none => rw [e] at h; cases h
  | some t => exact ⟨t, rfl, rfl⟩
theorem dn_pos {f : Flight} (g : Good f) {s : Str} (h : (pkOf f s).2 = true) : 1 ≤ dnOf f s := by
  obtain ⟨t, h1, h2⟩ := pk_find h
  rw [h2]
  obtain ⟨i, hi⟩ := List.getElem?_of_mem (List.mem_of_find?_eq_some h1)
  have q := ((trkE_iff _ i t).1 (((trk_iff _).1 g.trk).2 i t hi)).2.2.1
  rw [ser_iff] at q
  exact q.1.1
def stF (m : Mask) (s : Str) (i : Nat) (f : Flight) (b : Int × Bool × List Int × List Int) : Int × Bool × List Int × List Int :=
  match pf m s f with
  | some (p, d) => (d, b.2.1 || (decide (b.1 ≠ 0) && decide (d ≠ b.1)), b.2.2.1 ++ [p], b.2.2.2 ++ [(i : Int)])
  | none => b
def stR (m : Mask) (s : Str) (i : Nat) (f : Flight) (b : List Int × List Int × Int × Bool) : List Int × List Int × Int × Bool :=
  match pf m s f with
  | some (p, d) => (b.1 ++ [p], b.2.1 ++ [(i : Int)], if b.2.2.1 = 0 then d else b.2.2.1, b.2.2.2 && decide ((if b.2.2.1 = 0 then d else b.2.2.1) = d))
  | none => b
def FS (m : Mask) (s : Str) (l : List Flight) : Nat → Int × Bool × List Int × List Int
  | 0 => (0, false, [], [])
  | i + 1 => match l[i]? with
    | some f => stF m s i f (FS m s l i)
    | none => FS m s l i
def RS (m : Mask) (s : Str) (l : List Flight) : Nat → List Int × List Int × Int × Bool
  | 0 => ([], [], 0, true)
  | i + 1 => match l[i]? with
    | some f => stR m s i f (RS m s l i)
    | none => RS m s l i
/-- What both loops hold. -/
structure Jn (i : Nat) (a : Int × Bool × List Int × List Int) (b : List Int × List Int × Int × Bool) : Prop where
  ps : a.2.2.1 = b.1
  who : a.2.2.2 = b.2.1
  dif : a.2.1 = !b.2.2.2
  den : b.2.2.2 = true → a.1 = b.2.2.1
  nz : b.2.2.2 = false → b.2.2.1 ≠ 0
  lp : b.1.length ≤ i
  lw : b.2.1.length ≤ i
  rng : ∀ p ∈ b.1, -1125899906842624 ≤ p ∧ p ≤ 1125899906842624
theorem jn_all {m : Mask} (gm : Gm m) {s : Str} {l : List Flight} (hg : ∀ f ∈ l, Good f) : ∀ i, Jn i (FS m s l i) (RS m s l i)
  | 0 => ⟨rfl, rfl, rfl, fun _ => rfl, fun h => (by cases h), Nat.le_refl _, Nat.le_refl _, fun p hp => (by cases hp)⟩
  | i + 1 => by
    have ih := jn_all gm (s := s) hg i
    unfold FS RS
    cases e : l[i]? with
    | none => exact ⟨ih.ps, ih.who, ih.dif, ih.den, ih.nz, Nat.le_succ_of_le ih.lp, Nat.le_succ_of_le ih.lw, ih.rng⟩
    | some f =>
      simp only []
      have g := good_mfl gm (hg f (List.mem_of_getElem? e))
      unfold stF stR
      cases hp : pf m s f with
      | none => exact ⟨ih.ps, ih.who, ih.dif, ih.den, ih.nz, Nat.le_succ_of_le ih.lp, Nat.le_succ_of_le ih.lw, ih.rng⟩
      | some q =>
        obtain ⟨p, d⟩ := q
        have hpd : 1 ≤ d ∧ -1125899906842624 ≤ p ∧ p ≤ 1125899906842624 := by
          unfold pf at hp
          split at hp
          · rename_i hc
            cases hp
            exact ⟨dn_pos g hc, pkOf_rng g s⟩
          · cases hp
        obtain ⟨i1, i2, i3, i4, i5, i6, i7, i8⟩ := ih
        generalize FS m s l i = a at i1 i2 i3 i4 i5 i6 i7 i8 ⊢
        generalize RS m s l i = b at i1 i2 i3 i4 i5 i6 i7 i8 ⊢
        obtain ⟨den, dif, ps, who⟩ := a
        obtain ⟨ps', who', d0, same⟩ := b
        simp only [] at i1 i2 i3 i4 i5 i6 i7 i8
        subst i1; subst i2; subst i3
        refine ⟨rfl, rfl, ?_, ?_, ?_, by simp only [List.length_append, List.length_cons, List.length_nil]; omega, by simp only [List.length_append, List.length_cons, List.length_nil]; omega, fun x hx => ?_⟩
        · simp only []
          cases same with
          | false => rfl
          | true =>
            have hd := i4 rfl
            subst hd
            by_cases c : den = 0
            · simp [c]
            · simp only [c, if_false, Bool.not_true, Bool.false_or, Bool.true_and, ne_eq, not_false_eq_true, decide_true]
              by_cases c2 : d = den
              · simp [c2]
              · rw [decide_eq_true c2, decide_eq_false (fun h => c2 h.symm)]; rfl
        · simp only [Bool.and_eq_true, decide_eq_true_eq]
          exact fun h => h.2.symm
        · intro h
          simp only []
          by_cases c : d0 = 0
          · rw [if_pos c]; omega
          · rw [if_neg c]; exact c
        · simp only [] at hx
          rcases List.mem_append.1 hx with hx | hx
          · exact i8 x hx
          · have := List.mem_singleton.1 hx; subst this; exact hpd.2
theorem fPeaks_L3 {m : Mask} (gm : Gm m) (hm : okMask m) {s : Str} {l : List Flight} (h : okL okFlight l) (hl : l.length ≤ 300) (hg : ∀ f ∈ l, Good f) : F_fleet_peaksOf_L3 m s l (l.length : Int) (0, false, 0, [], []) = some (FS m s l l.length) := by
  unfold F_fleet_peaksOf_L3
  refine loopO_eq (fun (i : Nat) (b : Int × Bool × List Int × List Int) => (b.1, b.2.1, (i : Int), b.2.2.1, b.2.2.2)) l (fun i b => b = FS m s l i) _ (by omega) ?_ ?_ (0, false, [], []) rfl
  · intro kk i b f hf hi hI
    have hmem := List.mem_of_getElem? hf
    have g := hg f hmem
    have g2 := good_mfl gm g
    have ok2 := ok_mfl gm g (h.2 f hmem)
    have j := jn_all gm (s := s) hg i
    have l1 := j.lp
    have l2 := j.lw
    rw [← j.ps, ← hI] at l1
    rw [← j.who, ← hI] at l2
    refine ⟨stF m s i f b, by rw [hI]; conv => rhs; unfold FS; rw [hf], ?_⟩
    obtain ⟨den, dif, ps, who⟩ := b
    simp only [] at l1 l2
    simp only [yE]
    rw [xP hi, yP, wC hf, zL, masked_eq f m gm (okt_of g) hm.2.2.1.1, zL, peak_eq _ g2 ok2, zL, wrap1 hi (by omega)]
    unfold stF pf
    cases hp : (pkOf (mfl m f) s).2 with
    | false => simp [yP, zL, hp]
    | true =>
      obtain ⟨t, t1, t2⟩ := pk_find hp
      have e0 : pkOf (mfl m f) s = ((pkOf (mfl m f) s).1, true) := by rw [← hp]
      rw [e0]
      simp only [Bool.not_true, yS]
      rw [trackOf_eq _ s ok2.2.2.2.2.2.1, zL, t1, zL, t2]
      have e1 : iteB dif (some true) (iteB (decide (den ≠ 0)) (some (decide (t.Series.Den ≠ den))) (some false)) = some (dif || (decide (den ≠ 0) && decide (t.Series.Den ≠ den))) := by
        rw [iteB_and, iteB_or2]
      rw [e1, zL, appN ps _ (by simp; omega) (by simp; omega), zL, appN who _ (by simp; omega) (by simp; omega), zL, zL]
      rfl
  · intro kk b hI
    simp only [yE]
    rw [xQ, yS, hI]
theorem rPeaks_L1 {m : Mask} (gm : Gm m) (hm : okMask m) {s : Str} {l : List Flight} (h : okL okFlight l) (hl : l.length ≤ 300) (hg : ∀ f ∈ l, Good f) : F_ref9_peaks_L1 l m s ([], [], 0, true, 0) = some (RS m s l l.length) := by
  unfold F_ref9_peaks_L1
  refine loopO_eq (fun (i : Nat) (b : List Int × List Int × Int × Bool) => (b.1, b.2.1, b.2.2.1, b.2.2.2, (i : Int))) l (fun i b => b = RS m s l i) _ (by omega) ?_ ?_ ([], [], 0, true) rfl
  · intro kk i b f hf hi hI
    have hmem := List.mem_of_getElem? hf
    have g := hg f hmem
    have g2 := good_mfl gm g
    have ok2 := ok_mfl gm g (h.2 f hmem)
    have j := jn_all gm (s := s) hg i
    have l1 := j.lp
    have l2 := j.lw
    rw [← hI] at l1 l2
    refine ⟨stR m s i f b, by rw [hI]; conv => rhs; unfold RS; rw [hf], ?_⟩
    obtain ⟨ps, who, d0, same⟩ := b
    simp only [] at l1 l2
    simp only [yE]
    rw [xP hi, yP, wC hf, zL, rmasked_eq f m gm (okt_of g) hm.2.2.1.1, zL, rpeak_eq _ g2 ok2, zL, wrap1 hi (by omega)]
    unfold stR pf
    cases hp : (pkOf (mfl m f) s).2 with
    | false => simp [yP, zL, hp]
    | true =>
      simp only [Bool.not_true, yS, if_true]
      rw [appN ps _ (by simp; omega) (by simp; omega), zL, appN who _ (by simp; omega) (by simp; omega), zL]
      have e1 : iteB (decide (d0 = 0)) (some (dnOf (mfl m f) s)) (some d0) = some (if d0 = 0 then dnOf (mfl m f) s else d0) := by
        rw [iteB_dec]; split <;> rfl
      rw [e1, zL]
      cases same
      · rw [yS, zL]; rfl
      · rw [yP, zL]; rfl
  · intro kk b hI
    simp only [yE]
    rw [xQ, yS, hI]
end Go.Lf
namespace Go.Lf
/-- One round of the insertion. -/
def sB : (Int × List Int → Option (List Int)) → Int × List Int → Option (List Int) := fun k2509 ⟨g2504, g2505⟩ =>
  bindO (letO (decide (0 < g2504)) fun x2588 =>
  iteB x2588
  (bindO (at' g2505 g2504) fun x2591 =>
  letO (IntKind.i64.wrap (g2504 - 1)) fun x2602 =>
  bindO (at' g2505 x2602) fun x2604 =>
  letO (decide (x2591 < x2604)) fun x2615 =>
  some x2615)
  (some false)) fun g2583 =>
  iteB g2583
  (letO (IntKind.i64.wrap (g2504 - 1)) fun x2680 =>
  letO (IntKind.i64.wrap (g2504 - 1)) fun x2682 =>
  bindO (at' g2505 x2682) fun x2684 =>
  bindO (at' g2505 g2504) fun x2695 =>
  bindO (at' g2505 g2504) fun _ =>
  bindO (set' g2505 g2504 x2684) fun x2717 =>
  bindO (at' x2717 x2680) fun _ =>
  bindO (set' x2717 x2680 x2695) fun x2731 =>
  letO (IntKind.i64.wrap (g2504 - 1)) fun x2735 =>
  k2509 (x2735, x2731))
  (some g2505)
theorem sB_eq : F_ref5_Sorted_L2 = loopO sB := rfl
theorem snoc_cases (a : List Int) : a = [] ∨ ∃ b y, a = b ++ [y] := by
  rcases List.eq_nil_or_concat a with h | ⟨b, y, h⟩
  · exact .inl h
  · exact .inr ⟨b, y, by simpa using h⟩
theorem ins_loop : ∀ (n : Nat) (a : List Int) (x : Int) (t : List Int), a.length < n → a.length ≤ 9223372036854775806 →
    ∃ a1 a2, a = a1 ++ a2 ∧ (∀ y ∈ a2, x < y) ∧ (∀ y, a1.getLast? = some y → y ≤ x) ∧ loopN sB n ((a.length : Int), a ++ x :: t) = some (a1 ++ x :: (a2 ++ t))
  | 0, a, _, _, h, _ => by omega
  | n + 1, a, x, t, h, hb => by
    rcases snoc_cases a with rfl | ⟨b, y, rfl⟩
    · refine ⟨[], [], rfl, by simp, by simp, ?_⟩
      rw [loopN]
      rfl
    · have hl : (b ++ [y]).length = b.length + 1 := by simp
      have g1 : ((b ++ [y]) ++ x :: t)[(b ++ [y]).length]? = some x := by rw [List.getElem?_append_right (Nat.le_refl _)]; simp
      have e0 : (b ++ [y]) ++ x :: t = b ++ y :: x :: t := by simp
      have g2 : ((b ++ [y]) ++ x :: t)[b.length]? = some y := by rw [e0, List.getElem?_append_right (Nat.le_refl _)]; simp
      have w1 : IntKind.i64.wrap (((b ++ [y]).length : Int) - 1) = (b.length : Int) := by rw [hl, Go.OB.wrap_i64 (by omega) (by omega)]; omega
      by_cases c : x < y
      · have s1 : set' ((b ++ [y]) ++ x :: t) ((b ++ [y]).length : Int) y = some (b ++ y :: y :: t) := by
          unfold set'
          rw [if_pos ⟨by omega, by simp; omega⟩, Int.toNat_natCast, e0, List.set_append_right _ _ (by omega), hl]
          simp
        have g3 : (b ++ y :: y :: t)[b.length]? = some y := by rw [List.getElem?_append_right (Nat.le_refl _)]; simp
        have s2 : set' (b ++ y :: y :: t) (b.length : Int) x = some (b ++ x :: y :: t) := by
          unfold set'
          rw [if_pos ⟨by omega, by simp; omega⟩, Int.toNat_natCast, List.set_append_right _ _ (Nat.le_refl _)]
          simp
        obtain ⟨a1, a2, h1, h2, h3, h4⟩ := ins_loop n b x (y :: t) (by omega) (by omega)
        refine ⟨a1, a2 ++ [y], by rw [h1]; simp, fun z hz => ?_, h3, ?_⟩
        · rcases List.mem_append.1 hz with hz | hz
          · exact h2 z hz
          · have := List.mem_singleton.1 hz; subst this; exact c
        · rw [loopN]
          unfold sB
          simp only [yE]
          rw [decide_eq_true (show (0 : Int) < ((b ++ [y]).length : Int) by rw [hl]; omega), yP, wC g1, zL, w1, wC g2, zL, zL, decide_eq_true c, yP, zL, zL, zL, s1, zL, wC g3, zL, s2, zL]
          have h4' : loopN sB n ((b.length : Int), b ++ x :: y :: t) = some (a1 ++ x :: (a2 ++ y :: t)) := h4
          show loopN sB n ((b.length : Int), b ++ x :: y :: t) = _
          rw [h4']; simp
      · refine ⟨b ++ [y], [], by simp, by simp, fun z hz => ?_, ?_⟩
        · rw [List.getLast?_concat] at hz
          cases hz; omega
        · rw [loopN]
          unfold sB
          simp only [yE]
          rw [decide_eq_true (show (0 : Int) < ((b ++ [y]).length : Int) by rw [hl]; omega), yP, wC g1, zL, w1, wC g2, zL, zL, decide_eq_false c, yS]
          rfl
def Srd (l : List Int) : Prop := l.Pairwise (· ≤ ·)
theorem srd_ins {a1 a2 : List Int} {x : Int} (h : Srd (a1 ++ a2)) (h2 : ∀ y ∈ a2, x < y) (h1 : ∀ y, a1.getLast? = some y → y ≤ x) : Srd (a1 ++ x :: a2) := by
  unfold Srd at *
  rw [List.pairwise_append] at h ⊢
  obtain ⟨p1, p2, p3⟩ := h
  have hx : ∀ y ∈ a1, y ≤ x := by
    rcases snoc_cases a1 with rfl | ⟨b, z, rfl⟩
    · simp
    · have hz := h1 z (List.getLast?_concat ..)
      rw [List.pairwise_append] at p1
      intro y hy
      rcases List.mem_append.1 hy with hy | hy
      · have := p1.2.2 y hy z (by simp); omega
      · have := List.mem_singleton.1 hy; subst this; exact hz
  refine ⟨p1, List.pairwise_cons.2 ⟨fun y hy => Int.le_of_lt (h2 y hy), p2⟩, fun y hy z hz => ?_⟩
  rcases List.mem_cons.1 hz with rfl | hz
  · exact hx y hy
  · exact p3 y hy z hz
theorem srd_unique : ∀ {l m : List Int}, l.Perm m → Srd l → Srd m → l = m
  | [], m, h, _, _ => (List.nil_perm.1 h).symm
  | x :: l, m, h, h1, h2 => by
    cases m with
    | nil => exact absurd h (by simp)
    | cons y m =>
      unfold Srd at h1 h2
      obtain ⟨p1, p2⟩ := List.pairwise_cons.1 h1
      obtain ⟨q1, q2⟩ := List.pairwise_cons.1 h2
      have e : x = y := by
        have hx : x ∈ y :: m := h.mem_iff.1 List.mem_cons_self
        have hy : y ∈ x :: l := h.mem_iff.2 List.mem_cons_self
        have a1 : y ≤ x := by
          rcases List.mem_cons.1 hx with rfl | hx
          · exact Int.le_refl _
          · exact q1 x hx
        have a2 : x ≤ y := by
          rcases List.mem_cons.1 hy with rfl | hy
          · exact Int.le_refl _
          · exact p1 y hy
        omega
      subst e
      rw [srd_unique (List.perm_cons x |>.1 h) p2 q2]
theorem srt_srd (l : List Int) : Srd (srt l) := by
  unfold srt Srd
  have := List.pairwise_mergeSort (le := fun x y : Int => decide (x ≤ y)) (fun a b c h1 h2 => by simp only [decide_eq_true_eq] at *; omega) (fun a b => by simp only [Bool.or_eq_true, decide_eq_true_eq]; omega) l
  exact this.imp (fun h => by simpa using h)
theorem srt_perm (l : List Int) : (srt l).Perm l := List.mergeSort_perm _ _
theorem Sorted_eq (l : List Int) (hl : l.length ≤ 1000000) : F_ref5_Sorted l = some (srt l) := by
  unfold F_ref5_Sorted
  rw [appN [] l (by simp; omega) (by simp; omega), List.nil_append, zL]
  have key : F_ref5_Sorted_L1 (1, l) = some (srt l) := by
    unfold F_ref5_Sorted_L1
    cases l with
    | nil =>
      refine loopO_eq (fun (_ : Nat) (s : List Int) => ((1 : Int), s)) ([] : List Int) (fun _ s => s = []) _ (by simp) (fun k i s x hx => by simp at hx) (fun k s hI => ?_) [] rfl
      subst hI
      have e0 : srt [] = [] := List.eq_nil_of_length_eq_zero (srt_len [])
      rw [e0]
      simp only [yE]
      rfl
    | cons x0 l0 =>
      refine loopO_eq (fun (i : Nat) (s : List Int) => (((i + 1 : Nat) : Int), s)) l0 (fun i s => s.Perm (x0 :: l0) ∧ ∃ pre suf, s = pre ++ suf ∧ pre.length = i + 1 ∧ Srd pre) _ (by simp at hl; omega) ?_ ?_ (x0 :: l0) ⟨List.Perm.refl _, [x0], l0, rfl, rfl, by simp [Srd]⟩
      · rintro kk i s z hz hi ⟨hp, pre, suf, rfl, h1, h2⟩
        have hlen := hp.length_eq
        simp only [List.length_append, List.length_cons] at hlen hl
        cases suf with
        | nil => simp at hlen; omega
        | cons y suf =>
          obtain ⟨a1, a2, q1, q2, q3, q4⟩ := ins_loop FU pre y suf (FU_big (by omega)) (by omega)
          have e : F_ref5_Sorted_L2 (((i + 1 : Nat) : Int), pre ++ y :: suf) = some (a1 ++ y :: (a2 ++ suf)) := by
            rw [sB_eq]; unfold loopO
            rw [← h1]; exact q4
          refine ⟨a1 ++ y :: (a2 ++ suf), ⟨?_, a1 ++ y :: a2, suf, by simp, ?_, ?_⟩, ?_⟩
          · refine List.Perm.trans ?_ hp
            rw [q1]
            have : (a1 ++ y :: (a2 ++ suf)).Perm (a1 ++ (a2 ++ y :: suf)) := List.Perm.append_left a1 (List.perm_middle.symm)
            simpa using this
          · have := congrArg List.length q1
            simp at this ⊢; omega
          · rw [q1] at h2; exact srd_ins h2 q2 q3
          · simp only [yE]
            rw [decide_eq_true (show ((i + 1 : Nat) : Int) < ((pre ++ y :: suf).length : Int) by simp; omega), yP, e, zL, Go.OB.wrap_i64 (by omega) (by omega)]
            rfl
      · rintro kk s ⟨hp, pre, suf, rfl, h1, h2⟩
        have hlen := hp.length_eq
        simp only [List.length_append, List.length_cons] at hlen
        have hs : suf = [] := List.eq_nil_of_length_eq_zero (by omega)
        subst hs
        simp only [yE]
        have hd : ∀ a b : Int, ¬ a < b → decide (a < b) = false := fun a b h => decide_eq_false h
        rw [hd _ _ (by simp; omega), yS]
        rw [List.append_nil] at hp ⊢
        rw [srd_unique (hp.trans (srt_perm _).symm) h2 (srt_srd _)]
  rw [key, zL]
end Go.Lf
namespace Go.Lf
theorem least_of {m : Mask} (h : mskE m = some 0) : 1 ≤ m.Least := by
  unfold mskE at h
  split at h
  · cases h
  · split at h
    · cases h
    · have h2 := (findO_all _ _ _ _ h).2
      unfold mskG at h2
      split at h2
      · cases h2
      · have h4 := (findO_all _ _ _ _ h2).2
        unfold lstE at h4
        split at h4
        · cases h4
        · rename_i h5
          simp only [Bool.not_eq_true', Bool.and_eq_false_iff, decide_eq_false_iff_not] at h5
          omega
theorem contP_eq (l : List FleetPeaks) (m : Mask) (hl : l.length ≤ 9223372036854775807) : F_slices_ContainsFunc___fleet_peaks_fleet_peaks__fleet_peaksOf_1 l m = some (anyI (fun _ y => decide ((y.l.length : Int) < m.Least)) l 0) := by
  obtain ⟨n, h1, h2⟩ := idx_any (fun (_ : Nat) (y : FleetPeaks) => decide ((y.l.length : Int) < m.Least)) l 0
  have e : F_slices_IndexFunc___fleet_peaks_fleet_peaks__fleet_peaksOf_1 l m = some n := by
    unfold F_slices_IndexFunc___fleet_peaks_fleet_peaks__fleet_peaksOf_1
    simp only [yE, joinO_eq]
    unfold F_slices_IndexFunc___fleet_peaks_fleet_peaks__fleet_peaksOf_1_L1
    rw [← h1]
    refine wE l _ _ hl ?_ ?_
    · intro kk i x hx hi
      unfold F_fleet_peaksOf_1
      simp only [yE, zL]
      rw [xP hi, yP, wC hx, zL, wrap1 hi hl]
      cases decide ((x.l.length : Int) < m.Least) <;> rfl
    · intro kk; simp only [yE]; rw [xQ]; rfl
  unfold F_slices_ContainsFunc___fleet_peaks_fleet_peaks__fleet_peaksOf_1
  rw [e]
  simp only [yE, zL, h2]
def psL (m : Mask) (s : Str) (l : List Flight) : List Int := (RS m s l l.length).1
/-- What is wrong ahead of the peaks. -/
def pfE (c cm : Int) (s : Str) : Int := if c ≠ 0 then c else if cm ≠ 0 then cm else if !isNm s then 8 else 0
/-- What is wrong with the peaks. -/
def pE (m : Mask) (s : Str) (l : List Flight) : Int := if decide (((psL m s l).length : Int) < m.Least) then 4 else if !(RS m s l l.length).2.2.2 then 2 else 0
def poE (m : Mask) (s : Str) (l : List Flight) (c cm : Int) : Int := if pfE c cm s ≠ 0 then pfE c cm s else pE m s l
theorem peaksFault_eq {l : List Flight} {m : Mask} {s : Str} (h : okL okFlight l) (hm : okMask m) (hs : okS s) {c cm : Int} (hc : lfF l = some c) (hcm : mskE m = some cm) : F_ref9_peaksFault l m s = some (pfE c cm s) := by
  unfold F_ref9_peaksFault pfE
  rw [listFault_eq l h, hc, rCheckMask_eq m hm hm.2.2.2.1.1, hcm, rIsName_eq s hs]
  simp only [zL, yE, iteB_dec, iteB_ite]
  by_cases c1 : c = 0
  · by_cases c2 : cm = 0
    · cases isNm s <;> simp [c1, c2]
    · simp [c1, c2]
  · simp [c1]
theorem rpeaks_eq {l : List Flight} {m : Mask} {s : Str} (h : okL okFlight l) (hm : okMask m) (hc : lfF l = some 0) (hcm : mskE m = some 0) : F_ref9_peaks l m s = some (if pE m s l = 0 then (psL m s l, (RS m s l l.length).2.1, (RS m s l l.length).2.2.1, 0) else ([], [], 0, pE m s l)) := by
  obtain ⟨h1, h2⟩ := lfF_zero hc
  unfold F_ref9_peaks pE psL
  rw [rPeaks_L1 (good2_of hcm).toGm hm h h1 (fun f hf => good_of (h2 f hf)), zL]
  simp only [yE, iteB_dec, iteB_ite]
  generalize RS m s l l.length = b
  obtain ⟨ps, who, d0, same⟩ := b
  simp only []
  by_cases c1 : (ps.length : Int) < m.Least
  · simp [c1]
  · cases same <;> simp [c1]
theorem peaksOf_eq {l : List Flight} {m : Mask} {s : Str} (h : okL okFlight l) (hm : okMask m) (hs : okS s) {c cm : Int} (hc : lfF l = some c) (hcm : mskE m = some cm) :
    F_fleet_peaksOf [l] m s = some (if poE m s l c cm = 0 then [FleetPeaks.mk (psL m s l) (RS m s l l.length).2.1 0] else [], poE m s l c cm) := by
  unfold F_fleet_peaksOf
  rw [joinO_eq]
  simp only [yE]
  have q : ∀ k, F_fleet_peaksOf_L1 [l] k (([l] : List (List Flight)).length : Int) 0 = if c ≠ 0 then some ([], c) else k () := by
    intro k
    have e : F_fleet_peaksOf_L1 [l] k (([l] : List (List Flight)).length : Int) 0 = findO (fun _ x => if lfF x = some 0 then none else some (bindO (lfF x) fun c => some (([] : List FleetPeaks), c))) (k ()) [l] 0 := by
      unfold F_fleet_peaksOf_L1
      refine wE [l] _ (k ()) (by simp) ?_ ?_
      · intro kk i x hx hi
        have hox : x = l := by
          have := List.mem_of_getElem? hx
          simpa using this
        subst hox
        simp only [yE]
        rw [xP hi, yP, wC hx, zL, checkFlights_eq x h, hc, zL, wrap1 hi (by simp)]
        by_cases c0 : c = 0
        · subst c0; simp [yS]
        · rw [decide_eq_true c0, yP]; simp [c0, zL]
      · intro kk; simp only [yE]; rw [xQ]; rfl
    rw [e, findO, findO, hc]
    by_cases c1 : c = 0
    · subst c1; simp
    · simp [c1, zL]
  rw [q, CheckMask_eq m hm, hcm, IsName_eq s hs]
  simp only [zL]
  unfold poE pfE
  by_cases c1 : c = 0
  · have n1 : ¬ (c ≠ 0) := fun h => h c1
    rw [if_neg n1, if_neg n1, iteB_dec]
    by_cases c2 : cm = 0
    · have n2 : ¬ (cm ≠ 0) := fun h => h c2
      rw [if_neg n2, if_neg n2]
      cases hn : isNm s
      · rfl
      · subst c1; subst c2
        obtain ⟨h1, h2⟩ := lfF_zero hc
        have hg : ∀ f ∈ l, Good f := fun f hf => good_of (h2 f hf)
        have gm := (good2_of hcm).toGm
        have e2 : F_fleet_peaksOf_L2 [l] m s (([l] : List (List Flight)).length : Int) ([], 0, false, 0) = some ([FleetPeaks.mk (FS m s l l.length).2.2.1 (FS m s l l.length).2.2.2 0], (FS m s l l.length).2.1) := by
          unfold F_fleet_peaksOf_L2
          refine loopO_eq (fun (i : Nat) (b : List FleetPeaks × Int × Bool) => (b.1, b.2.1, b.2.2, (i : Int))) [l] (fun i b => if i = 0 then b = ([], 0, false) else b = ([FleetPeaks.mk (FS m s l l.length).2.2.1 (FS m s l l.length).2.2.2 0], (FS m s l l.length).1, (FS m s l l.length).2.1)) _ (by simp) ?_ ?_ ([], 0, false) rfl
          · intro kk i b x hx hi hI
            have hi0 : i = 0 := by simp at hi; exact hi
            subst hi0
            have hxl : x = l := by simpa using hx.symm
            subst hxl
            rw [if_pos rfl] at hI
            subst hI
            refine ⟨([FleetPeaks.mk (FS m s x x.length).2.2.1 (FS m s x x.length).2.2.2 0], (FS m s x x.length).1, (FS m s x x.length).2.1), rfl, ?_⟩
            simp only [yE]
            rw [xP hi, yP, wC hx, zL, fPeaks_L3 gm hm h h1 hg, zL, wrap1 hi (by simp), appN _ _ (by simp) (by simp), zL, zL]
            rfl
          · intro kk b hI
            simp only [yE]
            rw [xQ, yS]
            have hI : b = ([FleetPeaks.mk (FS m s l l.length).2.2.1 (FS m s l l.length).2.2.2 0], (FS m s l l.length).1, (FS m s l l.length).2.1) := hI
            subst hI
            rfl
        have j := jn_all gm (s := s) hg l.length
        simp only [Bool.not_true, yS]
        rw [e2, zL]
        simp only []
        rw [contP_eq _ _ (by simp), zL, j.ps, j.who, j.dif]
        unfold pE psL
        simp only [anyI, Bool.or_false, iteB_dec, iteB_ite, Bool.false_eq_true, if_false, ne_eq, not_true]
        by_cases c3 : ((RS m s l l.length).1.length : Int) < m.Least
        · simp [c3]
        · cases (RS m s l l.length).2.2.2 <;> simp [c3]
    · rw [if_pos c2, if_pos c2]; simp [c2]
  · rw [if_pos c1, if_pos c1]; simp [c1]
theorem iclone_eq (l : List Int) (h : l.length ≤ 20000) : F_slices_Clone___int_int_ l = some l := by
  have e : app' 8 ([] : List Int) l = some l := appN [] l (by simp; omega) (by simp; omega)
  unfold F_slices_Clone___int_int_ nilO
  rw [e]
  simp only [zL, yP, yS]
  cases l <;> simp
/-- The element with a rank. -/
theorem quant_eq {l : List Int} {n d : Int} (hl : l.length ≤ 300) (h1 : 1 ≤ l.length) (hd : 1 ≤ d ∧ d ≤ 1000000) (hn : 0 ≤ n ∧ n ≤ d) : ∃ x, F_fleet_quantile l n d = some x ∧ F_ref9_ranked l n d = some x := by
  have hp0 : 0 ≤ n * (l.length : Int) := Int.mul_nonneg hn.1 (by omega)
  have hp1 : n * (l.length : Int) ≤ d * (l.length : Int) := Int.mul_le_mul_of_nonneg_right hn.2 (by omega)
  have hp2 : d * (l.length : Int) ≤ 1000000 * (l.length : Int) := Int.mul_le_mul_of_nonneg_right hd.2 (by omega)
  generalize hP : n * (l.length : Int) = P at hp0 hp1 hp2
  have hPc : (l.length : Int) * n = P := by rw [Int.mul_comm]; exact hP
  have hs := srt_len l
  have hX : X_Sort l = some (srt l) := by unfold X_Sort; rw [if_pos (by omega)]
  have w1 : IntKind.i64.wrap P = P := Go.OB.wrap_i64 (by omega) (by omega)
  have w2 : IntKind.i64.wrap (P + d) = P + d := Go.OB.wrap_i64 (by omega) (by omega)
  have w3 : IntKind.i64.wrap (P + d - 1) = P + d - 1 := Go.OB.wrap_i64 (by omega) (by omega)
  have hq0 : 0 ≤ (P + d - 1) / d := Int.ediv_nonneg (by omega) (by omega)
  have hq1 : (P + d - 1) / d ≤ (l.length : Int) := by
    have : (P + d - 1) / d < (l.length : Int) + 1 := Int.ediv_lt_of_lt_mul (by omega) (by rw [Int.add_mul, Int.mul_comm (l.length : Int) d]; omega)
    omega
  have hq : quo' .i64 (P + d - 1) d = some ((P + d - 1) / d) := by
    unfold quo'
    rw [if_neg (by omega), Int.tdiv_eq_ediv_of_nonneg (by omega), Go.OB.wrap_i64 (by omega) (by omega)]
  generalize (P + d - 1) / d = k at hq0 hq1 hq
  have w4 : IntKind.i64.wrap (max k 1 - 1) = max k 1 - 1 := Go.OB.wrap_i64 (by omega) (by omega)
  obtain ⟨i, hi⟩ : ∃ i : Nat, max k 1 - 1 = (i : Int) := ⟨(max k 1 - 1).toNat, by omega⟩
  have hil : i < (srt l).length := by omega
  refine ⟨(srt l)[i], ?_, ?_⟩
  · unfold F_fleet_quantile
    rw [iclone_eq l (by omega), zL, hX, zL]
    simp only [yE]
    rw [hs, hP, w1, w2, w3, hq, zL, w4, hi, wC (List.getElem?_eq_getElem hil), zL]
  · unfold F_ref9_ranked
    simp only [yE]
    rw [hPc, w1, w2, w3, hq, zL, Sorted_eq l (by omega), zL, w4, hi, wC (List.getElem?_eq_getElem hil), zL]
end Go.Lf
namespace Go.Lf
open Go.OB Go.RowKit in
theorem mask_u64 {a : Nat} (h : a < 18446744073709551616) : bits .and .u64 (a : Int) 4294967295 = ((a % 4294967296 : Nat) : Int) := by
  have e : (4294967295 : Int) = 2 ^ 32 - 1 := by decide
  have q := bits_mask .u64 64 (by decide) wrapn_u64 32 (by decide) (a : Int) (by omega) (by omega)
  rw [e, q]
  have : (2 : Int) ^ 32 = 4294967296 := by decide
  rw [this, Int.natCast_emod]; rfl
theorem shr_u64 {a : Nat} : shr' .u64 (a : Int) 32 = some ((a / 4294967296 : Nat) : Int) := by
  unfold shr'
  rw [if_pos (by decide)]
  have : (2 : Int) ^ (32 : Int).toNat = 4294967296 := by decide
  rw [this, Int.natCast_ediv]; rfl
theorem w64 {a : Int} (h0 : 0 ≤ a) (h : a < 18446744073709551616) : IntKind.u64.wrap a = a := by rw [IntKind.wrap_u64]; omega
theorem w64n {a : Nat} (h : a < 18446744073709551616) : IntKind.u64.wrap (a : Int) = (a : Int) := w64 (by omega) (by omega)
/-- Every product. -/
theorem mulG (a b : Nat) (ha : a < 18446744073709551616) (hb : b < 18446744073709551616) : F_math_bits_Mul64 (a : Int) (b : Int) = some (((a * b / 18446744073709551616 : Nat) : Int), ((a * b % 18446744073709551616 : Nat) : Int)) := by
  obtain ⟨bd, bt, bw, hhi⟩ := Lib.mul64_hi a b ha hb
  have he := Lib.half_mul_le (a := a / 4294967296) (b := b / 4294967296) (by omega) (by omega)
  have hb' := Lib.half_mul_le (a := a / 4294967296) (b := b % 4294967296) (by omega) (by omega)
  have hc := Lib.half_mul_le (a := a % 4294967296) (b := b / 4294967296) (by omega) (by omega)
  have e0 : (a : Int) * (b : Int) = ((a * b : Nat) : Int) := by rw [Int.natCast_mul]
  have e1 : ((a % 4294967296 : Nat) : Int) * ((b % 4294967296 : Nat) : Int) = (((a % 4294967296) * (b % 4294967296) : Nat) : Int) := by rw [Int.natCast_mul]
  have e2 : ((a / 4294967296 : Nat) : Int) * ((b % 4294967296 : Nat) : Int) = (((a / 4294967296) * (b % 4294967296) : Nat) : Int) := by rw [Int.natCast_mul]
  have e3 : ((a % 4294967296 : Nat) : Int) * ((b / 4294967296 : Nat) : Int) = (((a % 4294967296) * (b / 4294967296) : Nat) : Int) := by rw [Int.natCast_mul]
  have e4 : ((a / 4294967296 : Nat) : Int) * ((b / 4294967296 : Nat) : Int) = (((a / 4294967296) * (b / 4294967296) : Nat) : Int) := by rw [Int.natCast_mul]
  have e5 : IntKind.u64.wrap ((a * b : Nat) : Int) = ((a * b % 18446744073709551616 : Nat) : Int) := by rw [IntKind.wrap_u64]; omega
  unfold F_math_bits_Mul64
  simp only [yE]
  rw [mask_u64 ha, shr_u64, zL, mask_u64 hb, shr_u64, zL, e0, e1, e2, e3, e4, e5]
  generalize (a / 4294967296) * (b / 4294967296) = e at *
  generalize (a / 4294967296) * (b % 4294967296) = p at *
  generalize (a % 4294967296) * (b / 4294967296) = c at *
  generalize (a % 4294967296) * (b % 4294967296) = d at *
  rw [w64n (a := d) (by omega), w64n (a := p) (by omega), w64n (a := c) (by omega), w64n (a := e) (by omega), shr_u64, zL]
  have f1 : (p : Int) + ((d / 4294967296 : Nat) : Int) = ((p + d / 4294967296 : Nat) : Int) := by omega
  rw [f1]
  generalize p + d / 4294967296 = t at *
  rw [w64n (a := t) (by omega), mask_u64 (by omega), shr_u64, zL]
  have f2 : ((t % 4294967296 : Nat) : Int) + (c : Int) = ((t % 4294967296 + c : Nat) : Int) := by omega
  rw [f2]
  generalize t % 4294967296 + c = v at *
  rw [w64n (a := v) (by omega), shr_u64, zL]
  have f3 : (e : Int) + ((t / 4294967296 : Nat) : Int) = ((e + t / 4294967296 : Nat) : Int) := by omega
  rw [f3, w64n (a := e + t / 4294967296) (by omega)]
  have f4 : ((e + t / 4294967296 : Nat) : Int) + ((v / 4294967296 : Nat) : Int) = ((a * b / 18446744073709551616 : Nat) : Int) := by omega
  have f5 : a * b / 18446744073709551616 < 18446744073709551616 := by omega
  rw [f4, w64n f5]
theorem loop_out {γ β : Type} {body : (γ → Option β) → γ → Option β} {g : γ} {r : β} (h : ∀ k, body k g = some r) : loopO body g = some r := by
  unfold loopO
  obtain ⟨n, hn⟩ : ∃ n, FU = n + 1 := ⟨FU - 1, by have := FU_big (Nat.le_refl 9223372036854775807); omega⟩
  rw [hn, loopN]; exact h _
theorem wsub {n1 n2 P1 r1 : Nat} (h1 : P1 + r1 = n1) (h2 : r1 * 4294967296 + n2 < 18446744073709551616) :
    IntKind.u64.wrap (IntKind.u64.wrap (IntKind.u64.wrap ((n1 : Int) * 4294967296) + (n2 : Int)) - IntKind.u64.wrap ((P1 * 4294967296 : Nat) : Int)) = ((r1 * 4294967296 + n2 : Nat) : Int) := by
  subst h1
  simp only [IntKind.wrap_u64]
  rw [Int.emod_add_emod, ← Int.sub_emod]
  have e : ((P1 + r1 : Nat) : Int) * 4294967296 + (n2 : Int) - ((P1 * 4294967296 : Nat) : Int) = ((r1 * 4294967296 + n2 : Nat) : Int) := by omega
  rw [e]; exact Int.emod_eq_of_lt (by omega) (by omega)
theorem wadd {q1 q2 : Nat} (h1 : q1 < 4294967296) (h2 : q2 < 4294967296) : IntKind.u64.wrap (IntKind.u64.wrap ((q1 : Int) * 4294967296) + (q2 : Int)) = ((q1 * 4294967296 + q2 : Nat) : Int) := by
  simp only [IntKind.wrap_u64]; omega
theorem wnot (r n : Int) : ¬ IntKind.u64.wrap (IntKind.u64.wrap (4294967296 * r) + n) < 0 := by rw [IntKind.wrap_u64]; omega
set_option maxHeartbeats 2000000 in
/-- A division of a wide number by a small one. -/
theorem divG (hi lo y : Nat) (hy : 1 ≤ y) (hy2 : y ≤ 131071) (hh : hi < y) (hl : lo < 18446744073709551616) :
    F_math_bits_Div64 (hi : Int) (lo : Int) (y : Int) = some ((((hi * 18446744073709551616 + lo) / y : Nat) : Int), (((hi * 18446744073709551616 + lo) % y : Nat) : Int)) := by
  unfold F_math_bits_Div64
  simp only [yE]
  rw [decide_eq_false (show ¬ (y : Int) = 0 by omega), yS, decide_eq_false (show ¬ (y : Int) ≤ (hi : Int) by omega), yS]
  by_cases c0 : hi = 0
  · subst c0
    rw [decide_eq_true (show ((0 : Nat) : Int) = 0 from rfl), yP]
    have hq : quo' .u64 (lo : Int) (y : Int) = some ((lo / y : Nat) : Int) := by
      unfold quo'
      have h1 := Nat.div_le_self lo y
      have e : Int.tdiv (lo : Int) (y : Int) = ((lo / y : Nat) : Int) := by rw [Int.tdiv_eq_ediv_of_nonneg (by omega), Int.natCast_ediv]
      have f : IntKind.u64.wrap ((lo / y : Nat) : Int) = ((lo / y : Nat) : Int) := by
        generalize lo / y = q at h1
        exact w64n (by omega)
      rw [if_neg (by omega), e, f]
    have hr : rem' (lo : Int) (y : Int) = some ((lo % y : Nat) : Int) := by
      unfold rem'
      rw [if_neg (by omega), Int.tmod_eq_emod_of_nonneg (by omega), Int.natCast_emod]
    rw [hq, zL, hr, zL, Nat.zero_mul, Nat.zero_add]
  rw [decide_eq_false (show ¬ (hi : Int) = 0 by omega), yS]
  obtain ⟨b1, b2, b3⟩ := Lib.bitLenAux_bounds 64 y (by omega) (by omega)
  have b4 : Lib.bitLen y ≤ 17 := Lib.bitLen_le y 17 (by omega) (by omega)
  have eb : Lib.bitLenAux 64 y = Lib.bitLen y := rfl
  rw [eb] at b1 b2 b3
  have hlen : X_Len64 (y : Int) = some ((Lib.bitLen y : Nat) : Int) := by
    unfold X_Len64
    rw [if_pos (by omega), Int.toNat_natCast]
  generalize Lib.bitLen y = b at b1 b2 b3 b4 hlen
  have hlz : F_math_bits_LeadingZeros64 (y : Int) = some ((64 - b : Nat) : Int) := by
    unfold F_math_bits_LeadingZeros64
    simp only [yE]
    rw [hlen, zL, Go.OB.wrap_i64 (by omega) (by omega)]
    congr 1; omega
  rw [hlz, zL, w64n (a := 64 - b) (by omega)]
  -- the powers
  obtain ⟨u, hu⟩ : ∃ u : Nat, 2 ^ (32 - b) = u := ⟨_, rfl⟩
  obtain ⟨c, hc⟩ : ∃ c : Nat, 2 ^ b = c := ⟨_, rfl⟩
  obtain ⟨t, ht⟩ : ∃ t : Nat, 2 ^ (64 - b) = t := ⟨_, rfl⟩
  have htu : t = u * 4294967296 := by rw [← ht, ← hu, show 64 - b = (32 - b) + 32 by omega, Nat.pow_add]
  have htc : t * c = 18446744073709551616 := by rw [← ht, ← hc, ← Nat.pow_add, show 64 - b + b = 64 by omega]
  have hc2 : c ≤ 2 * y := by
    rw [← hc, show b = (b - 1) + 1 by omega, Nat.pow_succ]; omega
  rw [hc] at b3
  have u1 : 1 ≤ u := by rw [← hu]; exact Nat.pos_of_ne_zero (by simp)
  have c1 : 1 ≤ c := by omega
  have t1 : 1 ≤ t := by omega
  have hyt : y * t < 18446744073709551616 := by
    rw [← htc, Nat.mul_comm t c]; exact Nat.mul_lt_mul_of_pos_right b3 t1
  have hht : hi * t < 18446744073709551616 := Nat.lt_of_le_of_lt (Nat.mul_le_mul_right t (by omega : hi ≤ y)) hyt
  have tp : ((2 : Int) ^ ((64 - b : Nat) : Int).toNat) = (t : Int) := by rw [Int.toNat_natCast, ← ht, Int.natCast_pow]; rfl
  have hsl : ∀ x : Nat, shl' .u64 (x : Int) ((64 - b : Nat) : Int) = some ((x * t % 18446744073709551616 : Nat) : Int) := by
    intro x
    unfold shl'
    have hb : (0 : Int) ≤ ((64 - b : Nat) : Int) ∧ ((64 - b : Nat) : Int) ≤ (IntKind.u64.bits : Int) := ⟨by omega, by have : (IntKind.u64.bits : Int) = 64 := rfl; omega⟩
    rw [if_pos hb, tp, IntKind.wrap_u64, ← Int.natCast_mul]
    congr 1
  have hsr : ∀ x : Nat, shr' .u64 (x : Int) ((64 - b : Nat) : Int) = some ((x / t : Nat) : Int) := by
    intro x
    unfold shr'
    have hb : (0 : Int) ≤ ((64 - b : Nat) : Int) ∧ ((64 - b : Nat) : Int) ≤ (IntKind.u64.bits : Int) := ⟨by omega, by have : (IntKind.u64.bits : Int) = 64 := rfl; omega⟩
    rw [if_pos hb, tp, Int.natCast_ediv]
  have hb64 : (64 : Int) - ((64 - b : Nat) : Int) = ((b : Nat) : Int) := by omega
  have hsrb : shr' .u64 (lo : Int) ((b : Nat) : Int) = some ((lo / c : Nat) : Int) := by
    unfold shr'
    have hb : (0 : Int) ≤ ((b : Nat) : Int) ∧ ((b : Nat) : Int) ≤ (IntKind.u64.bits : Int) := ⟨by omega, by have : (IntKind.u64.bits : Int) = 64 := rfl; omega⟩
    have cp : ((2 : Int) ^ ((b : Nat) : Int).toNat) = (c : Int) := by rw [Int.toNat_natCast, ← hc, Int.natCast_pow]; rfl
    rw [if_pos hb, cp, Int.natCast_ediv]
  -- the divisor's halves
  have y1 : y * t = y * u * 4294967296 := by rw [htu, Nat.mul_assoc]
  have y2 : y * t / 4294967296 = y * u := by rw [y1]; exact Nat.mul_div_cancel _ (by omega)
  have y3 : y * t % 4294967296 = 0 := by rw [y1]; exact Nat.mul_mod_left _ _
  rw [hsl y, Nat.mod_eq_of_lt hyt, zL, shr_u64, zL, mask_u64 hyt, y2, y3, hsl hi, Nat.mod_eq_of_lt hht, zL, hb64, w64n (a := b) (by omega), hsrb, zL]
  -- the dividend
  have l1 : lo / c < t := Nat.div_lt_of_lt_mul (by rw [Nat.mul_comm, htc]; exact hl)
  have l2 : c * (lo / c) + lo % c = lo := Nat.div_add_mod lo c
  have l3 : lo % c < c := Nat.mod_lt _ c1
  have hor : hi * t ||| lo / c = hi * t + lo / c := by
    rw [← ht] at l1 ⊢
    rw [Nat.mul_comm hi]
    exact (Nat.two_pow_add_eq_or_of_lt l1 hi).symm
  have hn1 : hi * t + lo / c < y * t := by
    have : (hi + 1) * t ≤ y * t := Nat.mul_le_mul_right t hh
    rw [Nat.succ_mul] at this
    omega
  rw [bits_or_u64_nat _ _ hht (by omega), hor, hsl lo, zL]
  have l4 : lo * t % 18446744073709551616 = lo % c * u * 4294967296 := by
    have e : lo * t = (lo / c) * 18446744073709551616 + lo % c * t := by
      conv => lhs; rw [← l2]
      rw [Nat.add_mul, ← htc, Nat.mul_comm c (lo / c), Nat.mul_assoc, Nat.mul_comm c t]
    have e2 : lo % c * t < 18446744073709551616 := by rw [← htc, Nat.mul_comm t c]; exact Nat.mul_lt_mul_of_pos_right l3 t1
    rw [e, Nat.mul_add_mod_self_right, Nat.mod_eq_of_lt e2, htu, Nat.mul_assoc]
  have l5 : lo % c * u < 4294967296 := by
    have := Nat.mod_lt (lo * t) (show 0 < 18446744073709551616 by omega)
    omega
  rw [l4, shr_u64, Nat.mul_div_cancel _ (by omega), zL, mask_u64 (by omega), Nat.mul_mod_left]
  -- N * t
  have hN : (hi * 18446744073709551616 + lo) * t = (hi * t + lo / c) * 18446744073709551616 + lo % c * u * 4294967296 := by
    have e : lo * t = (lo / c) * 18446744073709551616 + lo % c * u * 4294967296 := by
      conv => lhs; rw [← l2]
      rw [Nat.add_mul, ← htc, Nat.mul_comm c (lo / c), Nat.mul_assoc, Nat.mul_comm c t, htu, Nat.mul_assoc (lo % c)]
    rw [Nat.add_mul, e, Nat.add_mul, Nat.mul_right_comm]; omega
  have hY1 : 1 ≤ y * u := Nat.mul_pos hy u1
  have hY2 : y * u < 4294967296 := by omega
  generalize hun : hi * t + lo / c = n1 at *
  generalize hvn : lo % c * u = n2 at *
  generalize hYn : y * u = Y at *
  have hn1' : n1 < Y * 4294967296 := by omega
  -- the first digit
  have hdm1 := Nat.div_add_mod n1 Y
  have hm1 := Nat.mod_lt n1 hY1
  have hq1 : n1 / Y < 4294967296 := Nat.div_lt_of_lt_mul hn1'
  generalize hq1n : n1 / Y = q1 at *
  generalize hr1n : n1 % Y = r1 at *
  have hquo1 : quo' .u64 (n1 : Int) (Y : Int) = some (q1 : Int) := by
    unfold quo'
    have e : Int.tdiv (n1 : Int) (Y : Int) = ((n1 / Y : Nat) : Int) := by rw [Int.tdiv_eq_ediv_of_nonneg (by omega), Int.natCast_ediv]
    rw [if_neg (by omega), e, hq1n, w64n (by omega)]
  have ep1 : (q1 : Int) * (Y : Int) = ((Y * q1 : Nat) : Int) := by rw [Int.natCast_mul, Int.mul_comm]
  rw [hquo1, zL, ep1]
  generalize hP1 : Y * q1 = P1 at *
  rw [w64n (a := P1) (by omega), show (n1 : Int) - (P1 : Int) = (r1 : Int) by omega, w64n (a := r1) (by omega)]
  have L1 : F_math_bits_Div64_L1 (Y : Int) ((0 : Nat) : Int) (n2 : Int) ((q1 : Int), (r1 : Int)) = some (q1 : Int) := by
    unfold F_math_bits_Div64_L1
    refine loop_out fun k => ?_
    simp only [yE]
    rw [decide_eq_false (show ¬ (4294967296 : Int) ≤ (q1 : Int) by omega), yS, show (q1 : Int) * ((0 : Nat) : Int) = 0 by simp, w64 (a := 0) (by omega) (by omega), decide_eq_false (show ¬ IntKind.u64.wrap (IntKind.u64.wrap (4294967296 * (r1 : Int)) + (n2 : Int)) < 0 from wnot _ _), zL, yS]
  rw [L1, zL]
  have eq1 : (q1 : Int) * ((y * t : Nat) : Int) = ((P1 * 4294967296 : Nat) : Int) := by
    rw [← Int.natCast_mul, y1, ← hP1, Nat.mul_comm q1, Nat.mul_assoc, Nat.mul_comm 4294967296, Nat.mul_assoc]
  have e21 : IntKind.u64.wrap (IntKind.u64.wrap (IntKind.u64.wrap ((n1 : Int) * 4294967296) + (n2 : Int)) - IntKind.u64.wrap ((q1 : Int) * ((y * t : Nat) : Int))) = ((r1 * 4294967296 + n2 : Nat) : Int) := by
    rw [eq1]; exact wsub hdm1 (by omega)
  rw [e21]
  have hs2 : r1 * 4294967296 + n2 < Y * 4294967296 := by omega
  obtain ⟨n3, hn3⟩ : ∃ n3, r1 * 4294967296 + n2 = n3 := ⟨_, rfl⟩
  rw [hn3] at hs2 ⊢
  -- the second digit
  have hdm2 := Nat.div_add_mod n3 Y
  have hm2 := Nat.mod_lt n3 hY1
  have hq2 : n3 / Y < 4294967296 := Nat.div_lt_of_lt_mul hs2
  generalize hq2n : n3 / Y = q2 at *
  generalize hr2n : n3 % Y = r2 at *
  have hquo2 : quo' .u64 (n3 : Int) (Y : Int) = some (q2 : Int) := by
    unfold quo'
    have e : Int.tdiv (n3 : Int) (Y : Int) = ((n3 / Y : Nat) : Int) := by rw [Int.tdiv_eq_ediv_of_nonneg (by omega), Int.natCast_ediv]
    rw [if_neg (by omega), e, hq2n, w64n (by omega)]
  have ep2 : (q2 : Int) * (Y : Int) = ((Y * q2 : Nat) : Int) := by rw [Int.natCast_mul, Int.mul_comm]
  rw [hquo2, zL, ep2]
  generalize hP2 : Y * q2 = P2 at *
  rw [w64n (a := P2) (by omega), show (n3 : Int) - (P2 : Int) = (r2 : Int) by omega, w64n (a := r2) (by omega)]
  have L2 : F_math_bits_Div64_L2 (Y : Int) ((0 : Nat) : Int) ((0 : Nat) : Int) ((r2 : Int), (q2 : Int)) = some (q2 : Int) := by
    unfold F_math_bits_Div64_L2
    refine loop_out fun k => ?_
    simp only [yE]
    rw [decide_eq_false (show ¬ (4294967296 : Int) ≤ (q2 : Int) by omega), yS, show (q2 : Int) * ((0 : Nat) : Int) = 0 by simp, w64 (a := 0) (by omega) (by omega), decide_eq_false (show ¬ IntKind.u64.wrap (IntKind.u64.wrap (4294967296 * (r2 : Int)) + ((0 : Nat) : Int)) < 0 from wnot _ _), zL, yS]
  rw [L2, zL]
  have eq2 : (q2 : Int) * ((y * t : Nat) : Int) = ((P2 * 4294967296 : Nat) : Int) := by
    rw [← Int.natCast_mul, y1, ← hP2, Nat.mul_comm q2, Nat.mul_assoc, Nat.mul_comm 4294967296, Nat.mul_assoc]
  have e22 : IntKind.u64.wrap (IntKind.u64.wrap (IntKind.u64.wrap ((n3 : Int) * 4294967296) + ((0 : Nat) : Int)) - IntKind.u64.wrap ((q2 : Int) * ((y * t : Nat) : Int))) = ((r2 * 4294967296 : Nat) : Int) := by
    have q := wsub (n2 := 0) hdm2 (by omega)
    rw [Nat.add_zero] at q
    rw [eq2]; exact q
  have e23 : IntKind.u64.wrap (IntKind.u64.wrap ((q1 : Int) * 4294967296) + (q2 : Int)) = ((q1 * 4294967296 + q2 : Nat) : Int) := by
    exact wadd hq1 hq2
  rw [e22, e23, hsr, zL]
  -- what they are
  obtain ⟨N, hNn⟩ : ∃ N, hi * 18446744073709551616 + lo = N := ⟨_, rfl⟩
  rw [hNn] at hN ⊢
  have k1 : N * u = (q1 * 4294967296 + q2) * Y + r2 := by
    have k2 : N * t = N * u * 4294967296 := by rw [htu, Nat.mul_assoc]
    have k3 : (q1 * 4294967296 + q2) * Y = P1 * 4294967296 + P2 := by
      rw [Nat.add_mul, Nat.mul_right_comm, Nat.mul_comm q1 Y, hP1, Nat.mul_comm q2 Y, hP2]
    rw [k3]; omega
  have k4 : (q1 * 4294967296 + q2) * Y = (q1 * 4294967296 + q2) * y * u := by rw [← hYn, Nat.mul_assoc]
  obtain ⟨Q, hQ⟩ : ∃ Q, q1 * 4294967296 + q2 = Q := ⟨_, rfl⟩
  rw [hQ] at k1 k4 ⊢
  have k5 : Q * y ≤ N := by
    refine Nat.le_of_mul_le_mul_right (c := u) ?_ u1
    omega
  obtain ⟨r, hr⟩ : ∃ r, N = Q * y + r := ⟨N - Q * y, by omega⟩
  have k6 : r * u = r2 := by
    have : N * u = Q * y * u + r * u := by rw [hr, Nat.add_mul]
    omega
  have k7 : r < y := by
    refine Nat.lt_of_mul_lt_mul_right (a := u) ?_
    omega
  have k8 : N / y = Q := by rw [hr, Nat.mul_comm Q y]; exact Nat.mul_add_div hy Q r |>.trans (by rw [Nat.div_eq_of_lt k7]; rfl)
  have k9 : N % y = r := by rw [hr, Nat.mul_comm Q y, Nat.mul_add_mod, Nat.mod_eq_of_lt k7]
  have k10 : r2 * 4294967296 / t = r := by
    rw [← k6, htu, Nat.mul_assoc]; exact Nat.mul_div_cancel _ (by omega)
  rw [k8, k9, k10]
end Go.Lf
namespace Go.Lf
/-- One round of the greatest divisor. -/
def gB : (Int × Int → Option Int) → Int × Int → Option Int := fun k ⟨g80, g81⟩ =>
  letO (decide (g81 ≠ 0)) fun x94 =>
  iteB x94
  (bindO (rem' g80 g81) fun x99 =>
  k (g81, x99))
  (some g80)
theorem gB1 : F_fleet_divisor_L1 = loopO gB := rfl
theorem gB2 : F_ref9_ratio_L1 = loopO gB := rfl
theorem gcd_loop : ∀ (n a b : Nat), b < n → loopN gB n ((a : Int), (b : Int)) = some ((Nat.gcd a b : Nat) : Int)
  | 0, _, _, h => by omega
  | n + 1, a, b, h => by
    rw [loopN]
    unfold gB
    simp only [yE]
    by_cases c : b = 0
    · subst c
      rw [decide_eq_false (by simp), yS, Nat.gcd_zero_right]
    · have c' : (b : Int) ≠ 0 := by omega
      have hr : rem' (a : Int) (b : Int) = some ((a % b : Nat) : Int) := by
        unfold rem'
        rw [if_neg c', Int.tmod_eq_emod_of_nonneg (by omega), Int.natCast_emod]
      rw [decide_eq_true c', yP, hr, zL]
      have hlt : a % b < b := Nat.mod_lt _ (by omega)
      have e : Nat.gcd a b = Nat.gcd b (a % b) := by rw [Nat.gcd_comm a b, Nat.gcd_rec b a, Nat.gcd_comm]
      rw [e]
      exact gcd_loop n b (a % b) (by omega)
theorem gcdO (a b : Nat) (h : b ≤ 9223372036854775807) : loopO gB ((a : Int), (b : Int)) = some ((Nat.gcd a b : Nat) : Int) := gcd_loop FU a b (FU_big h)
theorem abs_max (x : Int) : max x (-x) = (x.natAbs : Int) := by omega
theorem quo_nat {k : IntKind} (hk : ∀ z : Int, 0 ≤ z → z ≤ 9223372036854775807 → k.wrap z = z) {a b : Nat} (hb : 1 ≤ b) (ha : a ≤ 9223372036854775807) : quo' k (a : Int) (b : Int) = some ((a / b : Nat) : Int) := by
  unfold quo'
  have h1 := Nat.div_le_self a b
  have e : Int.tdiv (a : Int) (b : Int) = ((a / b : Nat) : Int) := by rw [Int.tdiv_eq_ediv_of_nonneg (by omega), Int.natCast_ediv]
  have f : k.wrap ((a / b : Nat) : Int) = ((a / b : Nat) : Int) := by
    generalize a / b = q at h1
    exact hk _ (by omega) (by omega)
  rw [if_neg (by omega), e, f]
theorem rem_nat {a b : Nat} (hb : 1 ≤ b) : rem' (a : Int) (b : Int) = some ((a % b : Nat) : Int) := by
  unfold rem'
  rw [if_neg (by omega), Int.tmod_eq_emod_of_nonneg (by omega), Int.natCast_emod]
theorem wk_i64 : ∀ z : Int, 0 ≤ z → z ≤ 9223372036854775807 → IntKind.i64.wrap z = z := fun z h1 h2 => Go.OB.wrap_i64 (by omega) h2
theorem wk_u64 : ∀ z : Int, 0 ≤ z → z ≤ 9223372036854775807 → IntKind.u64.wrap z = z := fun z h1 h2 => w64 h1 (by omega)
/-- The wide number of a sign and a size. -/
def wideN (neg : Bool) (A : Nat) : Orangeboxref9Wide := Orangeboxref9Wide.mk neg ((A / 18446744073709551616 : Nat) : Int) ((A % 18446744073709551616 : Nat) : Int)
theorem ratio_eq (neg : Bool) {A D g : Nat} (h1 : 1 ≤ D) (h2 : D ≤ 131071) (hA : A / 18446744073709551616 ≤ 1000000) (hg : Nat.gcd A D = g) :
    F_ref9_ratio (wideN neg A) (D : Int) = some (if A = 0 then (Ratio.mk 0 1, true) else if A / g ≤ 4611686018427387904 then (Ratio.mk (if neg = true then -((A / g : Nat) : Int) else ((A / g : Nat) : Int)) ((D / g : Nat) : Int), true) else (Ratio.mk 0 0, false)) := by
  have g1 : 1 ≤ g := by rw [← hg]; exact Nat.gcd_pos_of_pos_right _ (by omega)
  have gD : g ≤ D := by rw [← hg]; exact Nat.le_of_dvd (by omega) (Nat.gcd_dvd_right _ _)
  unfold F_ref9_ratio wideN
  simp only [yE]
  have hlo : A % 18446744073709551616 < 18446744073709551616 := Nat.mod_lt _ (by omega)
  have hsp : A / 18446744073709551616 * 18446744073709551616 + A % 18446744073709551616 = A := Nat.div_add_mod' _ _
  have hz : (A = 0) ↔ (A / 18446744073709551616 = 0 ∧ A % 18446744073709551616 = 0) := by omega
  generalize A / 18446744073709551616 = H at *
  generalize A % 18446744073709551616 = L at *
  have hb : iteB (decide ((H : Int) = 0)) (some (decide ((L : Int) = 0))) (some false) = some (decide (A = 0)) := by
    by_cases c1 : H = 0
    · by_cases c2 : L = 0
      · rw [decide_eq_true (show (H : Int) = 0 by omega), decide_eq_true (show (L : Int) = 0 by omega), decide_eq_true (hz.2 ⟨c1, c2⟩), yP]
      · rw [decide_eq_true (show (H : Int) = 0 by omega), decide_eq_false (show ¬ (L : Int) = 0 by omega), decide_eq_false (fun h => c2 (hz.1 h).2), yP]
    · rw [decide_eq_false (show ¬ (H : Int) = 0 by omega), decide_eq_false (fun h => c1 (hz.1 h).1), yS]
  rw [hb, zL]
  by_cases c : A = 0
  · rw [decide_eq_true c, yP, if_pos c]
  rw [decide_eq_false c, yS, if_neg c, rem_nat h1, zL, divG (H % D) L D h1 h2 (Nat.mod_lt _ h1) hlo, zL]
  simp only []
  have e1 : (H % D * 18446744073709551616 + L) % D = A % D := by
    rw [← hsp, Nat.add_mod, Nat.mod_mul_mod, ← Nat.add_mod]
  have e2 : Nat.gcd D (A % D) = g := by rw [Nat.gcd_comm, ← Nat.gcd_rec, Nat.gcd_comm, hg]
  have hm : A % D < D := Nat.mod_lt _ h1
  rw [e1, gB2, gcdO _ _ (by omega), e2, zL, quo_nat wk_u64 g1 (by omega), zL, rem_nat g1, zL, divG (H % g) L g g1 (by omega) (Nat.mod_lt _ g1) hlo, zL]
  simp only []
  rw [quo_nat wk_u64 g1 (by omega), zL]
  have e3 : A / g = H / g * 18446744073709551616 + (H % g * 18446744073709551616 + L) / g := by
    have hdm := Nat.div_add_mod H g
    have e : A = g * (H / g * 18446744073709551616) + (H % g * 18446744073709551616 + L) := by
      rw [← Nat.mul_assoc, ← Nat.add_assoc, ← Nat.add_mul, hdm, hsp]
    conv => lhs; rw [e]
    rw [Nat.mul_add_div g1]
  have hl : (H % g * 18446744073709551616 + L) / g < 18446744073709551616 := by
    refine Nat.div_lt_of_lt_mul ?_
    have := Nat.mod_lt H g1
    have h3 : (H % g + 1) * 18446744073709551616 ≤ g * 18446744073709551616 := Nat.mul_le_mul_right _ this
    omega
  have hDg := Nat.div_le_self D g
  generalize A / g = Q at *
  generalize H / g = h at *
  generalize (H % g * 18446744073709551616 + L) / g = l at *
  generalize D / g = a at *
  by_cases ch : h = 0
  · have hQ : Q = l := by omega
    subst hQ
    rw [decide_eq_false (show ¬ ((h : Nat) : Int) ≠ 0 by omega), yS]
    by_cases cl : Q ≤ 4611686018427387904
    · rw [decide_eq_false (show ¬ (4611686018427387904 : Int) < (Q : Int) by omega), yS, decide_eq_false (show ¬ (4611686018427387904 : Int) < (a : Int) by omega), zL, yS, if_pos cl]
      have f1 : IntKind.i64.wrap ((Q : Nat) : Int) = ((Q : Nat) : Int) := Go.OB.wrap_i64 (by omega) (by omega)
      have f2 : IntKind.i64.wrap ((a : Nat) : Int) = ((a : Nat) : Int) := Go.OB.wrap_i64 (by omega) (by omega)
      have f3 : IntKind.i64.wrap (-((Q : Nat) : Int)) = -((Q : Nat) : Int) := Go.OB.wrap_i64 (by omega) (by omega)
      rw [f1, f2, f3]
      cases neg <;> rfl
    · rw [decide_eq_true (show (4611686018427387904 : Int) < (Q : Int) by omega), yP, zL, yP, if_neg cl]
  · rw [decide_eq_true (show ((h : Nat) : Int) ≠ 0 by omega), yP, zL, yP, if_neg (by omega)]
theorem times_eq {a : Int} {b : Nat} (ha : a.natAbs ≤ 1000000000000000000) (hb : b ≤ 300) : F_ref9_times a (b : Int) = some (wideN (decide (a < 0)) (a.natAbs * b)) := by
  unfold F_ref9_times wideN
  simp only [yE]
  have f1 : IntKind.i64.wrap (-a) = -a := Go.OB.wrap_i64 (by omega) (by omega)
  have f2 : IntKind.i64.wrap (-(b : Int)) = -(b : Int) := Go.OB.wrap_i64 (by omega) (by omega)
  have e2 : (!(decide (a < 0) == decide ((b : Int) < 0))) = decide (a < 0) := by
    rw [decide_eq_false (show ¬ (b : Int) < 0 by omega)]
    cases decide (a < 0) <;> rfl
  rw [f1, f2, abs_max, abs_max, Int.natAbs_natCast, w64n (by omega), w64n (by omega), mulG _ _ (by omega) (by omega), zL, e2]
theorem add_wide {A B : Nat} (hA : A / 18446744073709551616 ≤ 1000000) (hB : B / 18446744073709551616 ≤ 1000000) :
    X_Add64 ((A % 18446744073709551616 : Nat) : Int) ((B % 18446744073709551616 : Nat) : Int) 0 = some ((((A + B) % 18446744073709551616 : Nat) : Int), (((A % 18446744073709551616 + B % 18446744073709551616) / 18446744073709551616 : Nat) : Int)) ∧
    ∃ c, X_Add64 ((A / 18446744073709551616 : Nat) : Int) ((B / 18446744073709551616 : Nat) : Int) (((A % 18446744073709551616 + B % 18446744073709551616) / 18446744073709551616 : Nat) : Int) = some ((((A + B) / 18446744073709551616 : Nat) : Int), c) := by
  unfold X_Add64
  refine ⟨?_, (((A / 18446744073709551616 : Nat) : Int) + ((B / 18446744073709551616 : Nat) : Int) + (((A % 18446744073709551616 + B % 18446744073709551616) / 18446744073709551616 : Nat) : Int)) / 18446744073709551616, ?_⟩
  · rw [if_pos ⟨by omega, by omega, by omega, by omega⟩]
    have e1 : (((A % 18446744073709551616 : Nat) : Int) + ((B % 18446744073709551616 : Nat) : Int) + 0) % 18446744073709551616 = (((A + B) % 18446744073709551616 : Nat) : Int) := by omega
    have e2 : (((A % 18446744073709551616 : Nat) : Int) + ((B % 18446744073709551616 : Nat) : Int) + 0) / 18446744073709551616 = (((A % 18446744073709551616 + B % 18446744073709551616) / 18446744073709551616 : Nat) : Int) := by omega
    rw [e1, e2]
  · rw [if_pos ⟨by omega, by omega, by omega, by omega⟩]
    have e1 : (((A / 18446744073709551616 : Nat) : Int) + ((B / 18446744073709551616 : Nat) : Int) + (((A % 18446744073709551616 + B % 18446744073709551616) / 18446744073709551616 : Nat) : Int)) % 18446744073709551616 = (((A + B) / 18446744073709551616 : Nat) : Int) := by omega
    rw [e1]
theorem sub_wide {A B : Nat} (hBA : B ≤ A) (hA : A / 18446744073709551616 ≤ 1000000) :
    ∃ b c, X_Sub64 ((A % 18446744073709551616 : Nat) : Int) ((B % 18446744073709551616 : Nat) : Int) 0 = some ((((A - B) % 18446744073709551616 : Nat) : Int), b) ∧
      X_Sub64 ((A / 18446744073709551616 : Nat) : Int) ((B / 18446744073709551616 : Nat) : Int) b = some ((((A - B) / 18446744073709551616 : Nat) : Int), c) := by
  unfold X_Sub64
  by_cases cb : A % 18446744073709551616 < B % 18446744073709551616
  · refine ⟨1, if ((A / 18446744073709551616 : Nat) : Int) < ((B / 18446744073709551616 : Nat) : Int) + 1 then 1 else 0, ?_, ?_⟩
    · rw [if_pos ⟨by omega, by omega, by omega, by omega, by omega⟩, if_pos (by omega)]
      have e1 : (((A % 18446744073709551616 : Nat) : Int) + 18446744073709551616 - ((B % 18446744073709551616 : Nat) : Int) - 0) % 18446744073709551616 = (((A - B) % 18446744073709551616 : Nat) : Int) := by omega
      rw [e1]
    · rw [if_pos ⟨by omega, by omega, by omega, by omega, by omega⟩]
      have e1 : (((A / 18446744073709551616 : Nat) : Int) + 18446744073709551616 - ((B / 18446744073709551616 : Nat) : Int) - 1) % 18446744073709551616 = (((A - B) / 18446744073709551616 : Nat) : Int) := by omega
      rw [e1]
  · refine ⟨0, if ((A / 18446744073709551616 : Nat) : Int) < ((B / 18446744073709551616 : Nat) : Int) + 0 then 1 else 0, ?_, ?_⟩
    · rw [if_pos ⟨by omega, by omega, by omega, by omega, by omega⟩, if_neg (by omega)]
      have e1 : (((A % 18446744073709551616 : Nat) : Int) + 18446744073709551616 - ((B % 18446744073709551616 : Nat) : Int) - 0) % 18446744073709551616 = (((A - B) % 18446744073709551616 : Nat) : Int) := by omega
      rw [e1]
    · rw [if_pos ⟨by omega, by omega, by omega, by omega, by omega⟩]
      have e1 : (((A / 18446744073709551616 : Nat) : Int) + 18446744073709551616 - ((B / 18446744073709551616 : Nat) : Int) - 0) % 18446744073709551616 = (((A - B) / 18446744073709551616 : Nat) : Int) := by omega
      rw [e1]
theorem plus_eq {na nb : Bool} {A B : Nat} (hA : A / 18446744073709551616 ≤ 1000000) (hB : B / 18446744073709551616 ≤ 1000000) :
    F_ref9_plus (wideN na A) (wideN nb B) = some (if na = nb then wideN na (A + B) else if A < B then wideN nb (B - A) else wideN na (A - B)) := by
  unfold F_ref9_plus wideN
  simp only [yE]
  by_cases c : na = nb
  · obtain ⟨h1, x, h2⟩ := add_wide hA hB
    rw [show (na == nb) = true by rw [c]; cases nb <;> rfl, yP, h1, zL, h2, zL, if_pos c]
  · rw [show (na == nb) = false by cases na <;> cases nb <;> simp_all, yS, if_neg c]
    have hlt : iteB (decide (((A / 18446744073709551616 : Nat) : Int) < ((B / 18446744073709551616 : Nat) : Int))) (some true) (iteB (decide (((A / 18446744073709551616 : Nat) : Int) = ((B / 18446744073709551616 : Nat) : Int))) (some (decide (((A % 18446744073709551616 : Nat) : Int) < ((B % 18446744073709551616 : Nat) : Int)))) (some false)) = some (decide (A < B)) := by
      by_cases c1 : A / 18446744073709551616 < B / 18446744073709551616
      · rw [decide_eq_true (by omega), yP, decide_eq_true (show A < B by omega)]
      · rw [decide_eq_false (by omega), yS]
        by_cases c2 : A / 18446744073709551616 = B / 18446744073709551616
        · rw [decide_eq_true (by omega), yP]
          by_cases c3 : A % 18446744073709551616 < B % 18446744073709551616
          · rw [decide_eq_true (by omega), decide_eq_true (show A < B by omega)]
          · rw [decide_eq_false (by omega), decide_eq_false (show ¬ A < B by omega)]
        · rw [decide_eq_false (by omega), yS, decide_eq_false (show ¬ A < B by omega)]
    rw [hlt, zL]
    by_cases c4 : A < B
    · obtain ⟨b, x, h1, h2⟩ := sub_wide (Nat.le_of_lt c4) hB
      rw [decide_eq_true c4, yP, zL]
      simp only []
      rw [h1, zL]
      simp only []
      rw [h2, zL, if_pos c4]
    · obtain ⟨b, x, h1, h2⟩ := sub_wide (Nat.le_of_not_lt c4) hA
      rw [decide_eq_false c4, yS, zL]
      simp only []
      rw [h1, zL]
      simp only []
      rw [h2, zL, if_neg c4]
end Go.Lf
namespace Go.Lf
/-- What is told of X divided by D. -/
def rA (X : Int) (D : Nat) : Ratio × Int :=
  if X.natAbs / Nat.gcd X.natAbs D ≤ 4611686018427387904 then (Ratio.mk (X.tdiv (Nat.gcd X.natAbs D : Nat)) ((D / Nat.gcd X.natAbs D : Nat) : Int), 0) else (Ratio.mk 0 0, 3)
theorem gcd_mixed {W R X : Int} {D : Nat} (hX : X = W * (D : Int) + R) : Nat.gcd X.natAbs D = Nat.gcd R.natAbs D := by
  have h : ∀ k : Nat, k ∣ D → (k ∣ X.natAbs ↔ k ∣ R.natAbs) := by
    intro k hk
    rw [← Int.ofNat_dvd_left, ← Int.ofNat_dvd_left, hX]
    have hd : (k : Int) ∣ W * (D : Int) := Int.dvd_trans (Int.natCast_dvd_natCast.2 hk) (Int.dvd_mul_left _ _)
    exact Int.dvd_add_right hd
  apply Nat.dvd_antisymm
  · exact Nat.dvd_gcd ((h _ (Nat.gcd_dvd_right _ _)).1 (Nat.gcd_dvd_left _ _)) (Nat.gcd_dvd_right _ _)
  · exact Nat.dvd_gcd ((h _ (Nat.gcd_dvd_right _ _)).2 (Nat.gcd_dvd_left _ _)) (Nat.gcd_dvd_right _ _)
theorem mixed_eq {W R X : Int} {D : Nat} (h1 : 1 ≤ D) (h2 : D ≤ 131071) (hX : X = W * (D : Int) + R) (hR : R.natAbs < 2 * D) (hW : W.natAbs ≤ 1000000000000000000) :
    ∃ r b, F_fleet_mixed W R (D : Int) = some (r, b) ∧ iteB (!b) (some (Ratio.mk 0 0, (3 : Int))) (some (r, 0)) = some (rA X D) := by
  have hgc := gcd_mixed hX
  unfold rA
  rw [hgc]
  obtain ⟨g, hg⟩ : ∃ g, Nat.gcd R.natAbs D = g := ⟨_, rfl⟩
  rw [hg]
  have g1 : 1 ≤ g := by rw [← hg]; exact Nat.gcd_pos_of_pos_right _ (by omega)
  obtain ⟨a, ha⟩ : g ∣ D := by rw [← hg]; exact Nat.gcd_dvd_right _ _
  obtain ⟨ρ, hρ⟩ : (g : Int) ∣ R := by rw [Int.ofNat_dvd_left, ← hg]; exact Nat.gcd_dvd_left _ _
  have gD : g ≤ D := Nat.le_of_dvd (by omega) ⟨a, ha⟩
  have a1 : a ≤ D := by rw [ha]; exact Nat.le_mul_of_pos_left _ (by omega)
  have na : D / g = a := by rw [ha]; exact Nat.mul_div_cancel_left _ (by omega)
  have hXg : X = (g : Int) * (W * (a : Int) + ρ) := by
    rw [hX, hρ, ha, Int.natCast_mul, Int.mul_add, ← Int.mul_assoc, ← Int.mul_assoc, Int.mul_comm W]
  have hRt : R.tdiv (g : Int) = ρ := by rw [hρ]; exact Int.mul_tdiv_cancel_left _ (by omega)
  have hXt : X.tdiv (g : Int) = W * (a : Int) + ρ := by rw [hXg]; exact Int.mul_tdiv_cancel_left _ (by omega)
  have hXn : X.natAbs / g = (W * (a : Int) + ρ).natAbs := by
    rw [hXg, Int.natAbs_mul, Int.natAbs_natCast]; exact Nat.mul_div_cancel_left _ (by omega)
  have hρ2 : ρ.natAbs < 2 * a := by
    have e : R.natAbs = g * ρ.natAbs := by rw [hρ, Int.natAbs_mul, Int.natAbs_natCast]
    rw [e, ha, ← Nat.mul_assoc, Nat.mul_comm 2 g, Nat.mul_assoc] at hR
    exact Nat.lt_of_mul_lt_mul_left hR
  have hq : quo' .i64 R (g : Int) = some ρ := by
    unfold quo'
    rw [if_neg (by omega), hRt, Go.OB.wrap_i64 (by omega) (by omega)]
  have hd : F_fleet_divisor R (D : Int) = some (g : Int) := by
    unfold F_fleet_divisor
    simp only [yE]
    have f1 : IntKind.i64.wrap (-R) = -R := Go.OB.wrap_i64 (by omega) (by omega)
    have f2 : IntKind.i64.wrap (-(D : Int)) = -(D : Int) := Go.OB.wrap_i64 (by omega) (by omega)
    rw [f1, f2, abs_max, abs_max, Int.natAbs_natCast, gB1, gcdO _ _ (by omega), hg, zL]
  rw [hXt, hXn, na]
  unfold F_fleet_mixed
  simp only [yE]
  have f3 : IntKind.i64.wrap (-W) = -W := Go.OB.wrap_i64 (by omega) (by omega)
  rw [hd, zL, hq, zL, quo_nat wk_i64 g1 (by omega), na, zL, f3, abs_max, w64n (a := W.natAbs) (by omega), w64n (a := a) (by omega), mulG _ _ (by omega) (by omega), zL]
  simp only []
  have hWa : (W * (a : Int)).natAbs = W.natAbs * a := by rw [Int.natAbs_mul, Int.natAbs_natCast]
  have hWs : W * (a : Int) = if W < 0 then -((W.natAbs * a : Nat) : Int) else ((W.natAbs * a : Nat) : Int) := by
    by_cases c : W < 0
    · have : W = -(W.natAbs : Int) := by omega
      rw [if_pos c]
      conv => lhs; rw [this]
      rw [Int.natCast_mul, Int.neg_mul]
    · have : W = (W.natAbs : Int) := by omega
      rw [if_neg c]
      conv => lhs; rw [this]
      rw [Int.natCast_mul]
  generalize W.natAbs * a = m at hWa hWs ⊢
  generalize W * (a : Int) = Z at hWa hWs ⊢
  by_cases cm : 0 < m / 18446744073709551616
  · refine ⟨Ratio.mk 0 0, false, ?_, ?_⟩
    · rw [decide_eq_true (show (0 : Int) < ((m / 18446744073709551616 : Nat) : Int) by omega), yP, zL, yP]
    · rw [if_neg (by omega)]; rfl
  have hmm : m % 18446744073709551616 = m := by omega
  rw [decide_eq_false (show ¬ (0 : Int) < ((m / 18446744073709551616 : Nat) : Int) by omega), yS, hmm]
  have e1 : IntKind.u64.wrap (2 * (a : Int)) = 2 * a := w64 (by omega) (by omega)
  have e2 : IntKind.u64.wrap (4611686018427387904 + 2 * (a : Int)) = 4611686018427387904 + 2 * a := w64 (by omega) (by omega)
  rw [e1, e2, zL]
  by_cases cl : 4611686018427387904 + 2 * a < m
  · refine ⟨Ratio.mk 0 0, false, ?_, ?_⟩
    · rw [decide_eq_true (by omega), yP]
    · rw [if_neg (by omega)]; rfl
  rw [decide_eq_false (by omega), yS]
  have f6 : IntKind.i64.wrap ((m : Nat) : Int) = ((m : Nat) : Int) := Go.OB.wrap_i64 (by omega) (by omega)
  have f7 : IntKind.i64.wrap (-((m : Nat) : Int)) = -((m : Nat) : Int) := Go.OB.wrap_i64 (by omega) (by omega)
  rw [f6, f7]
  have e3 : iteB (decide (W < 0)) (some (-((m : Nat) : Int))) (some (m : Int)) = some Z := by
    rw [hWs, iteB_dec]
    split <;> rfl
  have hb : Z.natAbs = m := hWa
  rw [e3, zL, Go.OB.wrap_i64 (by omega) (by omega), fwithin, zL]
  refine ⟨_, _, rfl, ?_⟩
  by_cases cw : (Z + ρ).natAbs ≤ 4611686018427387904
  · rw [if_pos cw, decide_eq_true (by omega), decide_eq_true (by omega)]; rfl
  · rw [if_neg cw]
    have : (decide ((-4611686018427387904 : Int) ≤ Z + ρ) && decide (Z + ρ ≤ 4611686018427387904)) = false := by
      rw [Bool.and_eq_false_iff, decide_eq_false_iff_not, decide_eq_false_iff_not]; omega
    rw [this]; rfl
theorem told_eq (neg : Bool) {X : Int} {D : Nat} (h1 : 1 ≤ D) (h2 : D ≤ 131071) (hA : X.natAbs / 18446744073709551616 ≤ 1000000) (hn : X ≠ 0 → neg = decide (X < 0)) :
    F_ref9_told (wideN neg X.natAbs) (D : Int) = some (rA X D) := by
  unfold F_ref9_told rA
  rw [ratio_eq neg h1 h2 hA rfl, zL]
  simp only [yE]
  obtain ⟨g, hg⟩ : ∃ g, Nat.gcd X.natAbs D = g := ⟨_, rfl⟩
  rw [hg]
  have g1 : 1 ≤ g := by rw [← hg]; exact Nat.gcd_pos_of_pos_right _ (by omega)
  by_cases c : X.natAbs = 0
  · rw [if_pos c]
    have hgD : g = D := by rw [← hg, c, Nat.gcd_zero_left]
    have hX : X = 0 := by omega
    rw [c, Nat.zero_div, if_pos (by omega), hX, hgD, Int.zero_tdiv, Nat.div_self (by omega)]
    rfl
  · rw [if_neg c]
    have hX : X ≠ 0 := by omega
    by_cases c2 : X.natAbs / g ≤ 4611686018427387904
    · rw [if_pos c2, if_pos c2, hn hX]
      have e : (if decide (X < 0) = true then -((X.natAbs / g : Nat) : Int) else ((X.natAbs / g : Nat) : Int)) = X.tdiv (g : Int) := by
        by_cases c3 : X < 0
        · rw [if_pos (decide_eq_true c3)]
          have e : X = -(X.natAbs : Int) := by omega
          conv => rhs; rw [e]
          rw [Int.neg_tdiv, Int.tdiv_eq_ediv_of_nonneg (by omega), Int.natCast_ediv]
        · rw [if_neg (by simpa using c3)]
          have e : X = (X.natAbs : Int) := by omega
          conv => rhs; rw [e]
          rw [Int.tdiv_eq_ediv_of_nonneg (by omega), Int.natCast_ediv]
      rw [e]; rfl
    · rw [if_neg c2, if_neg c2]; rfl
/-- The second program's way. -/
theorem plus_told {s t : Int} {n k : Nat} (n1 : 1 ≤ n) (n2 : n ≤ 300) (k1 : 1 ≤ k) (k2 : k ≤ 300) (hs : s.natAbs ≤ 337769972052787200) (ht : t.natAbs ≤ 337769972052787200) :
    ∃ a b c, F_ref9_times s (k : Int) = some a ∧ F_ref9_times (-t) (n : Int) = some b ∧ F_ref9_plus a b = some c ∧ F_ref9_told c ((n * k : Nat) : Int) = some (rA (s * (k : Int) - t * (n : Int)) (n * k)) := by
  have hD1 : 1 ≤ n * k := Nat.mul_pos n1 k1
  have hD2 : n * k ≤ 300 * 300 := Nat.mul_le_mul n2 k2
  have hA : s.natAbs * k ≤ 337769972052787200 * 300 := Nat.mul_le_mul hs k2
  have hB : (-t).natAbs * n ≤ 337769972052787200 * 300 := Nat.mul_le_mul (by omega) n2
  refine ⟨_, _, _, times_eq (by omega) k2, times_eq (by omega) n2, plus_eq (by omega) (by omega), ?_⟩
  have es : s * (k : Int) = if s < 0 then -((s.natAbs * k : Nat) : Int) else ((s.natAbs * k : Nat) : Int) := by
    by_cases c : s < 0
    · rw [if_pos c, Int.natCast_mul, ← Int.neg_mul]; congr 1; omega
    · rw [if_neg c, Int.natCast_mul]; congr 1; omega
  have et : t * (n : Int) = if -t < 0 then (((-t).natAbs * n : Nat) : Int) else -(((-t).natAbs * n : Nat) : Int) := by
    by_cases c : -t < 0
    · rw [if_pos c, Int.natCast_mul]; congr 1; omega
    · rw [if_neg c, Int.natCast_mul, ← Int.neg_mul]; congr 1; omega
  have hX : ∀ (C : Nat) (neg : Bool), (s * (k : Int) - t * (n : Int)).natAbs = C → (s * (k : Int) - t * (n : Int) ≠ 0 → neg = decide (s * (k : Int) - t * (n : Int) < 0)) → C / 18446744073709551616 ≤ 1000000 → F_ref9_told (wideN neg C) ((n * k : Nat) : Int) = some (rA (s * (k : Int) - t * (n : Int)) (n * k)) := by
    intro C neg hC hn h3
    subst hC
    exact told_eq neg hD1 (by omega) h3 hn
  generalize s.natAbs * k = A at hA es ⊢
  generalize (-t).natAbs * n = B at hB et ⊢
  generalize s * (k : Int) = x at es hX ⊢
  generalize t * (n : Int) = y at et hX ⊢
  by_cases c1 : s < 0
  · rw [if_pos c1] at es
    by_cases c2 : -t < 0
    · rw [if_pos c2] at et
      rw [decide_eq_true c1, decide_eq_true c2, if_pos rfl]
      exact hX _ _ (by omega) (fun _ => (decide_eq_true (by omega)).symm) (by omega)
    · rw [if_neg c2] at et
      rw [decide_eq_true c1, decide_eq_false c2, if_neg (by decide)]
      by_cases c3 : A < B
      · rw [if_pos c3]; exact hX _ _ (by omega) (fun _ => (decide_eq_false (by omega)).symm) (by omega)
      · rw [if_neg c3]; exact hX _ _ (by omega) (fun h => (decide_eq_true (by omega)).symm) (by omega)
  · rw [if_neg c1] at es
    by_cases c2 : -t < 0
    · rw [if_pos c2] at et
      rw [decide_eq_false c1, decide_eq_true c2, if_neg (by decide)]
      by_cases c3 : A < B
      · rw [if_pos c3]; exact hX _ _ (by omega) (fun _ => (decide_eq_true (by omega)).symm) (by omega)
      · rw [if_neg c3]; exact hX _ _ (by omega) (fun h => (decide_eq_false (by omega)).symm) (by omega)
    · rw [if_neg c2] at et
      rw [decide_eq_false c1, decide_eq_false c2, if_pos rfl]
      exact hX _ _ (by omega) (fun _ => (decide_eq_false (by omega)).symm) (by omega)
/-- The first program's way. -/
theorem apart_mixed {s t : Int} {n k : Nat} (n1 : 1 ≤ n) (n2 : n ≤ 300) (k1 : 1 ≤ k) (k2 : k ≤ 300) (hs : s.natAbs ≤ 337769972052787200) (ht : t.natAbs ≤ 337769972052787200) :
    quo' .i64 s (n : Int) = some (s.tdiv n) ∧ quo' .i64 t (k : Int) = some (t.tdiv k) ∧ rem' s (n : Int) = some (s.tmod n) ∧ rem' t (k : Int) = some (t.tmod k) ∧
    ∃ r b, F_fleet_mixed (IntKind.i64.wrap (s.tdiv n - t.tdiv k)) (IntKind.i64.wrap (IntKind.i64.wrap (s.tmod n * (k : Int)) - IntKind.i64.wrap (t.tmod k * (n : Int)))) (IntKind.i64.wrap ((n : Int) * (k : Int))) = some (r, b) ∧
      iteB (!b) (some (Ratio.mk 0 0, (3 : Int))) (some (r, 0)) = some (rA (s * (k : Int) - t * (n : Int)) (n * k)) := by
  have hD1 : 1 ≤ n * k := Nat.mul_pos n1 k1
  have hD2 : n * k ≤ 300 * 300 := Nat.mul_le_mul n2 k2
  have d1 : (s.tdiv (n : Int)).natAbs ≤ s.natAbs := by rw [Int.natAbs_tdiv, Int.natAbs_natCast]; exact Nat.div_le_self _ _
  have d2 : (t.tdiv (k : Int)).natAbs ≤ t.natAbs := by rw [Int.natAbs_tdiv, Int.natAbs_natCast]; exact Nat.div_le_self _ _
  have m1 : (s.tmod (n : Int)).natAbs < n := by rw [Int.natAbs_tmod, Int.natAbs_natCast]; exact Nat.mod_lt _ n1
  have m2 : (t.tmod (k : Int)).natAbs < k := by rw [Int.natAbs_tmod, Int.natAbs_natCast]; exact Nat.mod_lt _ k1
  have x1 : (s.tmod (n : Int) * (k : Int)).natAbs + k ≤ n * k := by
    rw [Int.natAbs_mul, Int.natAbs_natCast]
    have := Nat.mul_le_mul_right k (show (s.tmod (n : Int)).natAbs + 1 ≤ n from m1)
    rw [Nat.succ_mul] at this; exact this
  have x2 : (t.tmod (k : Int) * (n : Int)).natAbs + n ≤ n * k := by
    rw [Int.natAbs_mul, Int.natAbs_natCast, Nat.mul_comm n k]
    have := Nat.mul_le_mul_right n (show (t.tmod (k : Int)).natAbs + 1 ≤ k from m2)
    rw [Nat.succ_mul] at this; exact this
  have es := Int.tmod_add_mul_tdiv s (n : Int)
  have et := Int.tmod_add_mul_tdiv t (k : Int)
  have hX : s * (k : Int) - t * (n : Int) = (s.tdiv n - t.tdiv k) * ((n * k : Nat) : Int) + (s.tmod n * (k : Int) - t.tmod k * (n : Int)) := by
    have e1 : s * (k : Int) = s.tmod n * (k : Int) + s.tdiv n * ((n : Int) * (k : Int)) := by
      conv => lhs; rw [← es]
      rw [Int.add_mul, Int.mul_comm (n : Int), Int.mul_assoc]
    have e2 : t * (n : Int) = t.tmod k * (n : Int) + t.tdiv k * ((n : Int) * (k : Int)) := by
      conv => lhs; rw [← et]
      rw [Int.add_mul, Int.mul_comm (k : Int), Int.mul_assoc, Int.mul_comm (k : Int)]
    rw [e1, e2, Int.natCast_mul, Int.sub_mul]; omega
  have hc : (n : Int) * (k : Int) = ((n * k : Nat) : Int) := (Int.natCast_mul n k).symm
  have q1 : quo' .i64 s (n : Int) = some (s.tdiv n) := by
    unfold quo'
    have : IntKind.i64.wrap (s.tdiv (n : Int)) = s.tdiv (n : Int) := by
      generalize s.tdiv (n : Int) = z at d1
      exact Go.OB.wrap_i64 (by omega) (by omega)
    rw [if_neg (by omega), this]
  have q2 : quo' .i64 t (k : Int) = some (t.tdiv k) := by
    unfold quo'
    have : IntKind.i64.wrap (t.tdiv (k : Int)) = t.tdiv (k : Int) := by
      generalize t.tdiv (k : Int) = z at d2
      exact Go.OB.wrap_i64 (by omega) (by omega)
    rw [if_neg (by omega), this]
  refine ⟨q1, q2, by unfold rem'; rw [if_neg (by omega)], by unfold rem'; rw [if_neg (by omega)], ?_⟩
  have bW : (s.tdiv (n : Int)).natAbs ≤ 337769972052787200 := Nat.le_trans d1 hs
  have bV : (t.tdiv (k : Int)).natAbs ≤ 337769972052787200 := Nat.le_trans d2 ht
  rw [hc]
  clear es et hc q1 q2 d1 d2 m1 m2
  generalize s * (k : Int) - t * (n : Int) = X at hX ⊢
  generalize s.tmod n * (k : Int) = r1 at hX x1 ⊢
  generalize t.tmod k * (n : Int) = r2 at hX x2 ⊢
  generalize s.tdiv (n : Int) = w1 at hX bW ⊢
  generalize t.tdiv (k : Int) = w2 at hX bV ⊢
  generalize n * k = D at *
  rw [Go.OB.wrap_i64 (n := w1 - w2) (by omega) (by omega), Go.OB.wrap_i64 (n := r1) (by omega) (by omega), Go.OB.wrap_i64 (n := r2) (by omega) (by omega), Go.OB.wrap_i64 (n := r1 - r2) (by omega) (by omega), Go.OB.wrap_i64 (n := (D : Int)) (by omega) (by omega)]
  exact mixed_eq hD1 (by omega) hX (by omega) (by omega)
end Go.Lf
