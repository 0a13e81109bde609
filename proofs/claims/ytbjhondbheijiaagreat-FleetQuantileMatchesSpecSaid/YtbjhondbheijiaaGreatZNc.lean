/- Walks: what each function computes, for every argument; no condition but those that stand in the statements. -/
import Derived.Test.YtbjhondbheijiaaGreatZNb
namespace Go.Lf
section
variable {α β γ σ : Type}
theorem loopN_inv {body : (γ → Option β) → γ → Option β} (enc : Nat → σ → γ) (l : List α) (I : Nat → σ → Prop) (R : β → Prop)
    (h : ∀ k i s x, l[i]? = some x → i < l.length → I i s → ∃ s', I (i + 1) s' ∧ body k (enc i s) = k (enc (i + 1) s')) (hx : ∀ k s, I l.length s → ∃ r, body k (enc l.length s) = some r ∧ R r) :
    ∀ (d i : Nat) (s : σ) (n : Nat), i + d = l.length → d < n → I i s → ∃ r, loopN body n (enc i s) = some r ∧ R r
  | 0, i, s, n, hd, hn, hI => by
    obtain ⟨m, rfl⟩ : ∃ m, n = m + 1 := ⟨n - 1, by omega⟩
    obtain rfl : i = l.length := by omega
    rw [loopN]; exact hx _ s hI
  | d + 1, i, s, n, hd, hn, hI => by
    obtain ⟨m, rfl⟩ : ∃ m, n = m + 1 := ⟨n - 1, by omega⟩
    have hi : i < l.length := by omega
    obtain ⟨s', h1, h2⟩ := h (loopN body m) i s l[i] (List.getElem?_eq_getElem hi) hi hI
    rw [loopN, h2]
    exact loopN_inv enc l I R h hx d (i + 1) s' m (by omega) (by omega) h1
/-- A loop that keeps an invariant, whose yield is known. -/
theorem loopO_eq {body : (γ → Option β) → γ → Option β} (enc : Nat → σ → γ) (l : List α) (I : Nat → σ → Prop) (r : β) (hl : l.length ≤ 9223372036854775807)
    (h : ∀ k i s x, l[i]? = some x → i < l.length → I i s → ∃ s', I (i + 1) s' ∧ body k (enc i s) = k (enc (i + 1) s')) (hx : ∀ k s, I l.length s → body k (enc l.length s) = some r) (s : σ) (h0 : I 0 s) :
    loopO body (enc 0 s) = some r := by
  obtain ⟨r', h1, h2⟩ := loopN_inv enc l I (fun x => x = r) h (fun k s hI => ⟨r, hx k s hI, rfl⟩) l.length 0 s FU (by omega) (FU_big hl) h0
  unfold loopO
  rw [h1, h2]
end
theorem appN {α : Type} {n : Nat} (p q : List α) (h : (p.length + q.length) * n ≤ 140737488355328) (h1 : p.length + q.length ≤ 140737488355328) : app' n p q = some (p ++ q) := by
  unfold app'
  rw [if_pos ⟨by rw [Go.OB.maxLen_eq]; omega, h⟩]
/-- What is wrong with a list of flights. -/
def lfF (l : List Flight) : Option Int := if decide (300 < (l.length : Int)) then some 3 else findO (fun _ f => if fltC f = 0 then none else some (some (fltC f))) (some 0) l 0
theorem checkFlights_eq (l : List Flight) (h : okL okFlight l) : F_fleet_checkFlights l = lfF l := by
  unfold F_fleet_checkFlights lfF
  simp only [letO_eq, joinO_eq, iteB_ite]
  congr 1
  unfold F_fleet_checkFlights_L1
  refine loopO_find l _ _ h.1 ?_ ?_
  · intro kk i x hx hi
    simp only [letO_eq]
    rw [lt_true hi, iteB_tr, at_ok hx, bindO_s, CheckFlight_eq x (h.2 x (List.mem_of_getElem? hx)), bindO_s, wrap1 hi h.1, iteB_dec]
    by_cases c : fltC x = 0 <;> simp [c]
  · intro kk; simp only [letO_eq]; rw [lt_self]; rfl
theorem listFault_eq (l : List Flight) (h : okL okFlight l) : F_ref9_listFault l = lfF l := by
  unfold F_ref9_listFault lfF
  simp only [letO_eq, joinO_eq, iteB_ite]
  congr 1
  unfold F_ref9_listFault_L1
  refine loopO_find l _ _ h.1 ?_ ?_
  · intro kk i x hx hi
    simp only [letO_eq]
    rw [lt_true hi, iteB_tr, at_ok hx, bindO_s, rCheckFlight_eq x (h.2 x (List.mem_of_getElem? hx)), bindO_s, wrap1 hi h.1, iteB_dec]
    by_cases c : fltC x = 0 <;> simp [c]
  · intro kk; simp only [letO_eq]; rw [lt_self]; rfl
theorem lfF_some (l : List Flight) : ∃ r, lfF l = some r := by
  unfold lfF
  split
  · exact ⟨_, rfl⟩
  · have : ∀ (m : List Flight) (i : Nat), ∃ r, findO (fun _ f => if fltC f = 0 then none else some (some (fltC f))) (some 0) m i = some r := by
      intro m
      induction m with
      | nil => intro i; exact ⟨_, rfl⟩
      | cons x m ih =>
        intro i
        rw [findO]
        by_cases c : fltC x = 0
        · simp only [c, if_true]; exact ih (i + 1)
        · simp only [c, if_false]; exact ⟨_, rfl⟩
    exact this l 0
theorem lfF_zero {l : List Flight} (h : lfF l = some 0) : l.length ≤ 300 ∧ ∀ f ∈ l, fltC f = 0 := by
  unfold lfF at h
  by_cases c : 300 < (l.length : Int)
  · rw [decide_eq_true c, if_pos rfl] at h; cases h
  rw [decide_eq_false c, if_neg Bool.false_ne_true] at h
  refine ⟨by omega, ?_⟩
  have : ∀ (m : List Flight) (i : Nat), findO (fun _ f => if fltC f = 0 then none else some (some (fltC f))) (some 0) m i = some 0 → ∀ f ∈ m, fltC f = 0 := by
    intro m
    induction m with
    | nil => intro i _ f hf; cases hf
    | cons x m ih =>
      intro i hm f hf
      rw [findO] at hm
      by_cases c : fltC x = 0
      · simp only [c, if_true] at hm
        rcases List.mem_cons.1 hf with rfl | hf
        · exact c
        · exact ih (i + 1) hm f hf
      · simp only [c, if_false] at hm
        exact absurd (Option.some.inj hm) c
  exact this l 0 h
/-- The peak of a flight under a mask, with the Den. -/
def pf (m : Mask) (s : Str) (f : Flight) : Option (Int × Int) := if (pkOf (mfl m f) s).2 = true then some ((pkOf (mfl m f) s).1, dnOf (mfl m f) s) else none
theorem pk_find {f : Flight} {s : Str} (h : (pkOf f s).2 = true) : ∃ t, (f.Tracks.find? fun t => decide (t.Name = s)) = some t ∧ dnOf f s = t.Series.Den := by
  unfold pkOf at h
  unfold dnOf
  cases e : f.Tracks.find? fun t => decide (t.Name = s) with
  | none => rw [e] at h; cases h
  | some t => exact ⟨t, rfl, rfl⟩
theorem dn_pos {f : Flight} (g : Good f) {s : Str} (h : (pkOf f s).2 = true) : 1 ≤ dnOf f s := by
  obtain ⟨t, h1, h2⟩ := pk_find h
  rw [h2]
  obtain ⟨i, hi⟩ := List.getElem?_of_mem (List.mem_of_find?_eq_some h1)
  have q := ((trkE_iff _ i t).1 (((trk_iff _).1 g.trk).2 i t hi)).2.2.1
  rw [ser_iff] at q
  exact q.1.1
def stF (m : Mask) (s : Str) (i : Nat) (f : Flight) (b : Int × Bool × List Int × List Int) : Int × Bool × List Int × List Int :=
  match pf m s f with
  | some (p, d) => (d, b.2.1 || (decide (b.1 ≠ 0) && decide (d ≠ b.1)), b.2.2.1 ++ [p], b.2.2.2 ++ [(i : Int)])
  | none => b
def stR (m : Mask) (s : Str) (i : Nat) (f : Flight) (b : List Int × List Int × Int × Bool) : List Int × List Int × Int × Bool :=
  match pf m s f with
  | some (p, d) => (b.1 ++ [p], b.2.1 ++ [(i : Int)], if b.2.2.1 = 0 then d else b.2.2.1, b.2.2.2 && decide ((if b.2.2.1 = 0 then d else b.2.2.1) = d))
  | none => b
def FS (m : Mask) (s : Str) (l : List Flight) : Nat → Int × Bool × List Int × List Int
  | 0 => (0, false, [], [])
  | i + 1 => match l[i]? with
    | some f => stF m s i f (FS m s l i)
    | none => FS m s l i
def RS (m : Mask) (s : Str) (l : List Flight) : Nat → List Int × List Int × Int × Bool
  | 0 => ([], [], 0, true)
  | i + 1 => match l[i]? with
    | some f => stR m s i f (RS m s l i)
    | none => RS m s l i
/-- What both loops hold. -/
structure Jn (i : Nat) (a : Int × Bool × List Int × List Int) (b : List Int × List Int × Int × Bool) : Prop where
  ps : a.2.2.1 = b.1
  who : a.2.2.2 = b.2.1
  dif : a.2.1 = !b.2.2.2
  den : b.2.2.2 = true → a.1 = b.2.2.1
  nz : b.2.2.2 = false → b.2.2.1 ≠ 0
  lp : b.1.length ≤ i
  lw : b.2.1.length ≤ i
  rng : ∀ p ∈ b.1, -1125899906842624 ≤ p ∧ p ≤ 1125899906842624
theorem jn_all {m : Mask} (gm : Gm m) {s : Str} {l : List Flight} (hg : ∀ f ∈ l, Good f) : ∀ i, Jn i (FS m s l i) (RS m s l i)
  | 0 => ⟨rfl, rfl, rfl, fun _ => rfl, fun h => (by cases h), Nat.le_refl _, Nat.le_refl _, fun p hp => (by cases hp)⟩
  | i + 1 => by
    have ih := jn_all gm (s := s) hg i
    unfold FS RS
    cases e : l[i]? with
    | none => exact ⟨ih.ps, ih.who, ih.dif, ih.den, ih.nz, Nat.le_succ_of_le ih.lp, Nat.le_succ_of_le ih.lw, ih.rng⟩
    | some f =>
      simp only []
      have g := good_mfl gm (hg f (List.mem_of_getElem? e))
      unfold stF stR
      cases hp : pf m s f with
      | none => exact ⟨ih.ps, ih.who, ih.dif, ih.den, ih.nz, Nat.le_succ_of_le ih.lp, Nat.le_succ_of_le ih.lw, ih.rng⟩
      | some q =>
        obtain ⟨p, d⟩ := q
        have hpd : 1 ≤ d ∧ -1125899906842624 ≤ p ∧ p ≤ 1125899906842624 := by
          unfold pf at hp
          split at hp
          · rename_i hc
            cases hp
            exact ⟨dn_pos g hc, pkOf_rng g s⟩
          · cases hp
        obtain ⟨i1, i2, i3, i4, i5, i6, i7, i8⟩ := ih
        generalize FS m s l i = a at i1 i2 i3 i4 i5 i6 i7 i8 ⊢
        generalize RS m s l i = b at i1 i2 i3 i4 i5 i6 i7 i8 ⊢
        obtain ⟨den, dif, ps, who⟩ := a
        obtain ⟨ps', who', d0, same⟩ := b
        simp only [] at i1 i2 i3 i4 i5 i6 i7 i8
        subst i1; subst i2; subst i3
        refine ⟨rfl, rfl, ?_, ?_, ?_, by simp only [List.length_append, List.length_cons, List.length_nil]; omega, by simp only [List.length_append, List.length_cons, List.length_nil]; omega, fun x hx => ?_⟩
        · simp only []
          cases same with
          | false => rfl
          | true =>
            have hd := i4 rfl
            subst hd
            by_cases c : den = 0
            · simp [c]
            · simp only [c, if_false, Bool.not_true, Bool.false_or, Bool.true_and, ne_eq, not_false_eq_true, decide_true]
              by_cases c2 : d = den
              · simp [c2]
              · rw [decide_eq_true c2, decide_eq_false (fun h => c2 h.symm)]; rfl
        · simp only [Bool.and_eq_true, decide_eq_true_eq]
          exact fun h => h.2.symm
        · intro h
          simp only []
          by_cases c : d0 = 0
          · rw [if_pos c]; omega
          · rw [if_neg c]; exact c
        · simp only [] at hx
          rcases List.mem_append.1 hx with hx | hx
          · exact i8 x hx
          · have := List.mem_singleton.1 hx; subst this; exact hpd.2
theorem fPeaks_L3 {m : Mask} (gm : Gm m) (hm : okMask m) {s : Str} {l : List Flight} (h : okL okFlight l) (hl : l.length ≤ 300) (hg : ∀ f ∈ l, Good f) : F_fleet_peaksOf_L3 m s l (l.length : Int) (0, false, 0, [], []) = some (FS m s l l.length) := by
  unfold F_fleet_peaksOf_L3
  refine loopO_eq (fun (i : Nat) (b : Int × Bool × List Int × List Int) => (b.1, b.2.1, (i : Int), b.2.2.1, b.2.2.2)) l (fun i b => b = FS m s l i) _ (by omega) ?_ ?_ (0, false, [], []) rfl
  · intro kk i b f hf hi hI
    have hmem := List.mem_of_getElem? hf
    have g := hg f hmem
    have g2 := good_mfl gm g
    have ok2 := ok_mfl gm g (h.2 f hmem)
    have j := jn_all gm (s := s) hg i
    have l1 := j.lp
    have l2 := j.lw
    rw [← j.ps, ← hI] at l1
    rw [← j.who, ← hI] at l2
    refine ⟨stF m s i f b, by rw [hI]; conv => rhs; unfold FS; rw [hf], ?_⟩
    obtain ⟨den, dif, ps, who⟩ := b
    simp only [] at l1 l2
    simp only [letO_eq]
    rw [lt_true hi, iteB_tr, at_ok hf, bindO_s, masked_eq f m gm (okt_of g) hm.2.2.1.1, bindO_s, peak_eq _ g2 ok2, bindO_s, wrap1 hi (by omega)]
    unfold stF pf
    cases hp : (pkOf (mfl m f) s).2 with
    | false => simp [iteB_tr, bindO_s, hp]
    | true =>
      obtain ⟨t, t1, t2⟩ := pk_find hp
      have e0 : pkOf (mfl m f) s = ((pkOf (mfl m f) s).1, true) := by rw [← hp]
      rw [e0]
      simp only [Bool.not_true, iteB_fa]
      rw [trackOf_eq _ s ok2.2.2.2.2.2.1, bindO_s, t1, bindO_s, t2]
      have e1 : iteB dif (some true) (iteB (decide (den ≠ 0)) (some (decide (t.Series.Den ≠ den))) (some false)) = some (dif || (decide (den ≠ 0) && decide (t.Series.Den ≠ den))) := by
        rw [iteB_and, iteB_or2]
      rw [e1, bindO_s, appN ps _ (by simp; omega) (by simp; omega), bindO_s, appN who _ (by simp; omega) (by simp; omega), bindO_s, bindO_s]
      rfl
  · intro kk b hI
    simp only [letO_eq]
    rw [lt_self, iteB_fa, hI]
theorem rPeaks_L1 {m : Mask} (gm : Gm m) (hm : okMask m) {s : Str} {l : List Flight} (h : okL okFlight l) (hl : l.length ≤ 300) (hg : ∀ f ∈ l, Good f) : F_ref9_peaks_L1 l m s ([], [], 0, true, 0) = some (RS m s l l.length) := by
  unfold F_ref9_peaks_L1
  refine loopO_eq (fun (i : Nat) (b : List Int × List Int × Int × Bool) => (b.1, b.2.1, b.2.2.1, b.2.2.2, (i : Int))) l (fun i b => b = RS m s l i) _ (by omega) ?_ ?_ ([], [], 0, true) rfl
  · intro kk i b f hf hi hI
    have hmem := List.mem_of_getElem? hf
    have g := hg f hmem
    have g2 := good_mfl gm g
    have ok2 := ok_mfl gm g (h.2 f hmem)
    have j := jn_all gm (s := s) hg i
    have l1 := j.lp
    have l2 := j.lw
    rw [← hI] at l1 l2
    refine ⟨stR m s i f b, by rw [hI]; conv => rhs; unfold RS; rw [hf], ?_⟩
    obtain ⟨ps, who, d0, same⟩ := b
    simp only [] at l1 l2
    simp only [letO_eq]
    rw [lt_true hi, iteB_tr, at_ok hf, bindO_s, rmasked_eq f m gm (okt_of g) hm.2.2.1.1, bindO_s, rpeak_eq _ g2 ok2, bindO_s, wrap1 hi (by omega)]
    unfold stR pf
    cases hp : (pkOf (mfl m f) s).2 with
    | false => simp [iteB_tr, bindO_s, hp]
    | true =>
      simp only [Bool.not_true, iteB_fa, if_true]
      rw [appN ps _ (by simp; omega) (by simp; omega), bindO_s, appN who _ (by simp; omega) (by simp; omega), bindO_s]
      have e1 : iteB (decide (d0 = 0)) (some (dnOf (mfl m f) s)) (some d0) = some (if d0 = 0 then dnOf (mfl m f) s else d0) := by
        rw [iteB_dec]; split <;> rfl
      rw [e1, bindO_s]
      cases same
      · rw [iteB_fa, bindO_s]; rfl
      · rw [iteB_tr, bindO_s]; rfl
  · intro kk b hI
    simp only [letO_eq]
    rw [lt_self, iteB_fa, hI]
end Go.Lf
namespace Go.Lf
/-- One round of the insertion. -/
def sB : (Int × List Int → Option (List Int)) → Int × List Int → Option (List Int) := fun k2509 ⟨g2504, g2505⟩ =>
  bindO (letO (decide (0 < g2504)) fun x2588 =>
  iteB x2588
  (bindO (at' g2505 g2504) fun x2591 =>
  letO (IntKind.i64.wrap (g2504 - 1)) fun x2602 =>
  bindO (at' g2505 x2602) fun x2604 =>
  letO (decide (x2591 < x2604)) fun x2615 =>
  some x2615)
  (some false)) fun g2583 =>
  iteB g2583
  (letO (IntKind.i64.wrap (g2504 - 1)) fun x2680 =>
  letO (IntKind.i64.wrap (g2504 - 1)) fun x2682 =>
  bindO (at' g2505 x2682) fun x2684 =>
  bindO (at' g2505 g2504) fun x2695 =>
  bindO (at' g2505 g2504) fun _ =>
  bindO (set' g2505 g2504 x2684) fun x2717 =>
  bindO (at' x2717 x2680) fun _ =>
  bindO (set' x2717 x2680 x2695) fun x2731 =>
  letO (IntKind.i64.wrap (g2504 - 1)) fun x2735 =>
  k2509 (x2735, x2731))
  (some g2505)
theorem sB_eq : F_ref5_Sorted_L2 = loopO sB := rfl
theorem snoc_cases (a : List Int) : a = [] ∨ ∃ b y, a = b ++ [y] := by
  rcases List.eq_nil_or_concat a with h | ⟨b, y, h⟩
  · exact .inl h
  · exact .inr ⟨b, y, by simpa using h⟩
theorem ins_loop : ∀ (n : Nat) (a : List Int) (x : Int) (t : List Int), a.length < n → a.length ≤ 9223372036854775806 →
    ∃ a1 a2, a = a1 ++ a2 ∧ (∀ y ∈ a2, x < y) ∧ (∀ y, a1.getLast? = some y → y ≤ x) ∧ loopN sB n ((a.length : Int), a ++ x :: t) = some (a1 ++ x :: (a2 ++ t))
  | 0, a, _, _, h, _ => by omega
  | n + 1, a, x, t, h, hb => by
    rcases snoc_cases a with rfl | ⟨b, y, rfl⟩
    · refine ⟨[], [], rfl, by simp, by simp, ?_⟩
      rw [loopN]
      rfl
    · have hl : (b ++ [y]).length = b.length + 1 := by simp
      have g1 : ((b ++ [y]) ++ x :: t)[(b ++ [y]).length]? = some x := by rw [List.getElem?_append_right (Nat.le_refl _)]; simp
      have e0 : (b ++ [y]) ++ x :: t = b ++ y :: x :: t := by simp
      have g2 : ((b ++ [y]) ++ x :: t)[b.length]? = some y := by rw [e0, List.getElem?_append_right (Nat.le_refl _)]; simp
      have w1 : IntKind.i64.wrap (((b ++ [y]).length : Int) - 1) = (b.length : Int) := by rw [hl, Go.OB.wrap_i64 (by omega) (by omega)]; omega
      by_cases c : x < y
      · have s1 : set' ((b ++ [y]) ++ x :: t) ((b ++ [y]).length : Int) y = some (b ++ y :: y :: t) := by
          unfold set'
          rw [if_pos ⟨by omega, by simp; omega⟩, Int.toNat_natCast, e0, List.set_append_right _ _ (by omega), hl]
          simp
        have g3 : (b ++ y :: y :: t)[b.length]? = some y := by rw [List.getElem?_append_right (Nat.le_refl _)]; simp
        have s2 : set' (b ++ y :: y :: t) (b.length : Int) x = some (b ++ x :: y :: t) := by
          unfold set'
          rw [if_pos ⟨by omega, by simp; omega⟩, Int.toNat_natCast, List.set_append_right _ _ (Nat.le_refl _)]
          simp
        obtain ⟨a1, a2, h1, h2, h3, h4⟩ := ins_loop n b x (y :: t) (by omega) (by omega)
        refine ⟨a1, a2 ++ [y], by rw [h1]; simp, fun z hz => ?_, h3, ?_⟩
        · rcases List.mem_append.1 hz with hz | hz
          · exact h2 z hz
          · have := List.mem_singleton.1 hz; subst this; exact c
        · rw [loopN]
          unfold sB
          simp only [letO_eq]
          rw [decide_eq_true (show (0 : Int) < ((b ++ [y]).length : Int) by rw [hl]; omega), iteB_tr, at_ok g1, bindO_s, w1, at_ok g2, bindO_s, bindO_s, decide_eq_true c, iteB_tr, bindO_s, bindO_s, bindO_s, s1, bindO_s, at_ok g3, bindO_s, s2, bindO_s]
          have h4' : loopN sB n ((b.length : Int), b ++ x :: y :: t) = some (a1 ++ x :: (a2 ++ y :: t)) := h4
          show loopN sB n ((b.length : Int), b ++ x :: y :: t) = _
          rw [h4']; simp
      · refine ⟨b ++ [y], [], by simp, by simp, fun z hz => ?_, ?_⟩
        · rw [List.getLast?_concat] at hz
          cases hz; omega
        · rw [loopN]
          unfold sB
          simp only [letO_eq]
          rw [decide_eq_true (show (0 : Int) < ((b ++ [y]).length : Int) by rw [hl]; omega), iteB_tr, at_ok g1, bindO_s, w1, at_ok g2, bindO_s, bindO_s, decide_eq_false c, iteB_fa]
          rfl
def Srd (l : List Int) : Prop := l.Pairwise (· ≤ ·)
theorem srd_ins {a1 a2 : List Int} {x : Int} (h : Srd (a1 ++ a2)) (h2 : ∀ y ∈ a2, x < y) (h1 : ∀ y, a1.getLast? = some y → y ≤ x) : Srd (a1 ++ x :: a2) := by
  unfold Srd at *
  rw [List.pairwise_append] at h ⊢
  obtain ⟨p1, p2, p3⟩ := h
  have hx : ∀ y ∈ a1, y ≤ x := by
    rcases snoc_cases a1 with rfl | ⟨b, z, rfl⟩
    · simp
    · have hz := h1 z (List.getLast?_concat ..)
      rw [List.pairwise_append] at p1
      intro y hy
      rcases List.mem_append.1 hy with hy | hy
      · have := p1.2.2 y hy z (by simp); omega
      · have := List.mem_singleton.1 hy; subst this; exact hz
  refine ⟨p1, List.pairwise_cons.2 ⟨fun y hy => Int.le_of_lt (h2 y hy), p2⟩, fun y hy z hz => ?_⟩
  rcases List.mem_cons.1 hz with rfl | hz
  · exact hx y hy
  · exact p3 y hy z hz
theorem srd_unique : ∀ {l m : List Int}, l.Perm m → Srd l → Srd m → l = m
  | [], m, h, _, _ => (List.nil_perm.1 h).symm
  | x :: l, m, h, h1, h2 => by
    cases m with
    | nil => exact absurd h (by simp)
    | cons y m =>
      unfold Srd at h1 h2
      obtain ⟨p1, p2⟩ := List.pairwise_cons.1 h1
      obtain ⟨q1, q2⟩ := List.pairwise_cons.1 h2
      have e : x = y := by
        have hx : x ∈ y :: m := h.mem_iff.1 List.mem_cons_self
        have hy : y ∈ x :: l := h.mem_iff.2 List.mem_cons_self
        have a1 : y ≤ x := by
          rcases List.mem_cons.1 hx with rfl | hx
          · exact Int.le_refl _
          · exact q1 x hx
        have a2 : x ≤ y := by
          rcases List.mem_cons.1 hy with rfl | hy
          · exact Int.le_refl _
          · exact p1 y hy
        omega
      subst e
      rw [srd_unique (List.perm_cons x |>.1 h) p2 q2]
theorem srt_srd (l : List Int) : Srd (srt l) := by
  unfold srt Srd
  have := List.pairwise_mergeSort (le := fun x y : Int => decide (x ≤ y)) (fun a b c h1 h2 => by simp only [decide_eq_true_eq] at *; omega) (fun a b => by simp only [Bool.or_eq_true, decide_eq_true_eq]; omega) l
  exact this.imp (fun h => by simpa using h)
theorem srt_perm (l : List Int) : (srt l).Perm l := List.mergeSort_perm _ _
theorem Sorted_eq (l : List Int) (hl : l.length ≤ 1000000) : F_ref5_Sorted l = some (srt l) := by
  unfold F_ref5_Sorted
  rw [appN [] l (by simp; omega) (by simp; omega), List.nil_append, bindO_s]
  have key : F_ref5_Sorted_L1 (1, l) = some (srt l) := by
    unfold F_ref5_Sorted_L1
    cases l with
    | nil =>
      refine loopO_eq (fun (_ : Nat) (s : List Int) => ((1 : Int), s)) ([] : List Int) (fun _ s => s = []) _ (by simp) (fun k i s x hx => by simp at hx) (fun k s hI => ?_) [] rfl
      subst hI
      have e0 : srt [] = [] := List.eq_nil_of_length_eq_zero (srt_len [])
      rw [e0]
      simp only [letO_eq]
      rfl
    | cons x0 l0 =>
      refine loopO_eq (fun (i : Nat) (s : List Int) => (((i + 1 : Nat) : Int), s)) l0 (fun i s => s.Perm (x0 :: l0) ∧ ∃ pre suf, s = pre ++ suf ∧ pre.length = i + 1 ∧ Srd pre) _ (by simp at hl; omega) ?_ ?_ (x0 :: l0) ⟨List.Perm.refl _, [x0], l0, rfl, rfl, by simp [Srd]⟩
      · rintro kk i s z hz hi ⟨hp, pre, suf, rfl, h1, h2⟩
        have hlen := hp.length_eq
        simp only [List.length_append, List.length_cons] at hlen hl
        cases suf with
        | nil => simp at hlen; omega
        | cons y suf =>
          obtain ⟨a1, a2, q1, q2, q3, q4⟩ := ins_loop FU pre y suf (FU_big (by omega)) (by omega)
          have e : F_ref5_Sorted_L2 (((i + 1 : Nat) : Int), pre ++ y :: suf) = some (a1 ++ y :: (a2 ++ suf)) := by
            rw [sB_eq]; unfold loopO
            rw [← h1]; exact q4
          refine ⟨a1 ++ y :: (a2 ++ suf), ⟨?_, a1 ++ y :: a2, suf, by simp, ?_, ?_⟩, ?_⟩
          · refine List.Perm.trans ?_ hp
            rw [q1]
            have : (a1 ++ y :: (a2 ++ suf)).Perm (a1 ++ (a2 ++ y :: suf)) := List.Perm.append_left a1 (List.perm_middle.symm)
            simpa using this
          · have := congrArg List.length q1
            simp at this ⊢; omega
          · rw [q1] at h2; exact srd_ins h2 q2 q3
          · simp only [letO_eq]
            rw [decide_eq_true (show ((i + 1 : Nat) : Int) < ((pre ++ y :: suf).length : Int) by simp; omega), iteB_tr, e, bindO_s, Go.OB.wrap_i64 (by omega) (by omega)]
            rfl
      · rintro kk s ⟨hp, pre, suf, rfl, h1, h2⟩
        have hlen := hp.length_eq
        simp only [List.length_append, List.length_cons] at hlen
        have hs : suf = [] := List.eq_nil_of_length_eq_zero (by omega)
        subst hs
        simp only [letO_eq]
        have hd : ∀ a b : Int, ¬ a < b → decide (a < b) = false := fun a b h => decide_eq_false h
        rw [hd _ _ (by simp; omega), iteB_fa]
        rw [List.append_nil] at hp ⊢
        rw [srd_unique (hp.trans (srt_perm _).symm) h2 (srt_srd _)]
  rw [key, bindO_s]
end Go.Lf
namespace Go.Lf
theorem least_of {m : Mask} (h : mskE m = some 0) : 1 ≤ m.Least := by
  unfold mskE at h
  split at h
  · cases h
  · split at h
    · cases h
    · have h2 := (findO_all _ _ _ _ h).2
      unfold mskG at h2
      split at h2
      · cases h2
      · have h4 := (findO_all _ _ _ _ h2).2
        unfold lstE at h4
        split at h4
        · cases h4
        · rename_i h5
          simp only [Bool.not_eq_true', Bool.and_eq_false_iff, decide_eq_false_iff_not] at h5
          omega
theorem contP_eq (l : List FleetPeaks) (m : Mask) (hl : l.length ≤ 9223372036854775807) : F_slices_ContainsFunc___fleet_peaks_fleet_peaks__fleet_peaksOf_1 l m = some (anyI (fun _ y => decide ((y.l.length : Int) < m.Least)) l 0) := by
  obtain ⟨n, h1, h2⟩ := idx_any (fun (_ : Nat) (y : FleetPeaks) => decide ((y.l.length : Int) < m.Least)) l 0
  have e : F_slices_IndexFunc___fleet_peaks_fleet_peaks__fleet_peaksOf_1 l m = some n := by
    unfold F_slices_IndexFunc___fleet_peaks_fleet_peaks__fleet_peaksOf_1
    simp only [letO_eq, joinO_eq]
    unfold F_slices_IndexFunc___fleet_peaks_fleet_peaks__fleet_peaksOf_1_L1
    rw [← h1]
    refine loopO_find l _ _ hl ?_ ?_
    · intro kk i x hx hi
      unfold F_fleet_peaksOf_1
      simp only [letO_eq, bindO_s]
      rw [lt_true hi, iteB_tr, at_ok hx, bindO_s, wrap1 hi hl]
      cases decide ((x.l.length : Int) < m.Least) <;> rfl
    · intro kk; simp only [letO_eq]; rw [lt_self]; rfl
  unfold F_slices_ContainsFunc___fleet_peaks_fleet_peaks__fleet_peaksOf_1
  rw [e]
  simp only [letO_eq, bindO_s, h2]
def psL (m : Mask) (s : Str) (l : List Flight) : List Int := (RS m s l l.length).1
/-- What is wrong ahead of the peaks. -/
def pfE (c cm : Int) (s : Str) : Int := if c ≠ 0 then c else if cm ≠ 0 then cm else if !isNm s then 8 else 0
/-- What is wrong with the peaks. -/
def pE (m : Mask) (s : Str) (l : List Flight) : Int := if decide (((psL m s l).length : Int) < m.Least) then 4 else if !(RS m s l l.length).2.2.2 then 2 else 0
def poE (m : Mask) (s : Str) (l : List Flight) (c cm : Int) : Int := if pfE c cm s ≠ 0 then pfE c cm s else pE m s l
theorem peaksFault_eq {l : List Flight} {m : Mask} {s : Str} (h : okL okFlight l) (hm : okMask m) (hs : okS s) {c cm : Int} (hc : lfF l = some c) (hcm : mskE m = some cm) : F_ref9_peaksFault l m s = some (pfE c cm s) := by
  unfold F_ref9_peaksFault pfE
  rw [listFault_eq l h, hc, rCheckMask_eq m hm hm.2.2.2.1.1, hcm, rIsName_eq s hs]
  simp only [bindO_s, letO_eq, iteB_dec, iteB_ite]
  by_cases c1 : c = 0
  · by_cases c2 : cm = 0
    · cases isNm s <;> simp [c1, c2]
    · simp [c1, c2]
  · simp [c1]
theorem rpeaks_eq {l : List Flight} {m : Mask} {s : Str} (h : okL okFlight l) (hm : okMask m) (hc : lfF l = some 0) (hcm : mskE m = some 0) : F_ref9_peaks l m s = some (if pE m s l = 0 then (psL m s l, (RS m s l l.length).2.1, (RS m s l l.length).2.2.1, 0) else ([], [], 0, pE m s l)) := by
  obtain ⟨h1, h2⟩ := lfF_zero hc
  unfold F_ref9_peaks pE psL
  rw [rPeaks_L1 (good2_of hcm).toGm hm h h1 (fun f hf => good_of (h2 f hf)), bindO_s]
  simp only [letO_eq, iteB_dec, iteB_ite]
  generalize RS m s l l.length = b
  obtain ⟨ps, who, d0, same⟩ := b
  simp only []
  by_cases c1 : (ps.length : Int) < m.Least
  · simp [c1]
  · cases same <;> simp [c1]
theorem peaksOf_eq {l : List Flight} {m : Mask} {s : Str} (h : okL okFlight l) (hm : okMask m) (hs : okS s) {c cm : Int} (hc : lfF l = some c) (hcm : mskE m = some cm) :
    F_fleet_peaksOf [l] m s = some (if poE m s l c cm = 0 then [FleetPeaks.mk (psL m s l) (RS m s l l.length).2.1 0] else [], poE m s l c cm) := by
  unfold F_fleet_peaksOf
  rw [joinO_eq]
  simp only [letO_eq]
  have q : ∀ k, F_fleet_peaksOf_L1 [l] k (([l] : List (List Flight)).length : Int) 0 = if c ≠ 0 then some ([], c) else k () := by
    intro k
    have e : F_fleet_peaksOf_L1 [l] k (([l] : List (List Flight)).length : Int) 0 = findO (fun _ x => if lfF x = some 0 then none else some (bindO (lfF x) fun c => some (([] : List FleetPeaks), c))) (k ()) [l] 0 := by
      unfold F_fleet_peaksOf_L1
      refine loopO_find [l] _ (k ()) (by simp) ?_ ?_
      · intro kk i x hx hi
        have hox : x = l := by
          have := List.mem_of_getElem? hx
          simpa using this
        subst hox
        simp only [letO_eq]
        rw [lt_true hi, iteB_tr, at_ok hx, bindO_s, checkFlights_eq x h, hc, bindO_s, wrap1 hi (by simp)]
        by_cases c0 : c = 0
        · subst c0; simp [iteB_fa]
        · rw [decide_eq_true c0, iteB_tr]; simp [c0, bindO_s]
      · intro kk; simp only [letO_eq]; rw [lt_self]; rfl
    rw [e, findO, findO, hc]
    by_cases c1 : c = 0
    · subst c1; simp
    · simp [c1, bindO_s]
  rw [q, CheckMask_eq m hm, hcm, IsName_eq s hs]
  simp only [bindO_s]
  unfold poE pfE
  by_cases c1 : c = 0
  · have n1 : ¬ (c ≠ 0) := fun h => h c1
    rw [if_neg n1, if_neg n1, iteB_dec]
    by_cases c2 : cm = 0
    · have n2 : ¬ (cm ≠ 0) := fun h => h c2
      rw [if_neg n2, if_neg n2]
      cases hn : isNm s
      · rfl
      · subst c1; subst c2
        obtain ⟨h1, h2⟩ := lfF_zero hc
        have hg : ∀ f ∈ l, Good f := fun f hf => good_of (h2 f hf)
        have gm := (good2_of hcm).toGm
        have e2 : F_fleet_peaksOf_L2 [l] m s (([l] : List (List Flight)).length : Int) ([], 0, false, 0) = some ([FleetPeaks.mk (FS m s l l.length).2.2.1 (FS m s l l.length).2.2.2 0], (FS m s l l.length).2.1) := by
          unfold F_fleet_peaksOf_L2
          refine loopO_eq (fun (i : Nat) (b : List FleetPeaks × Int × Bool) => (b.1, b.2.1, b.2.2, (i : Int))) [l] (fun i b => if i = 0 then b = ([], 0, false) else b = ([FleetPeaks.mk (FS m s l l.length).2.2.1 (FS m s l l.length).2.2.2 0], (FS m s l l.length).1, (FS m s l l.length).2.1)) _ (by simp) ?_ ?_ ([], 0, false) rfl
          · intro kk i b x hx hi hI
            have hi0 : i = 0 := by simp at hi; exact hi
            subst hi0
            have hxl : x = l := by simpa using hx.symm
            subst hxl
            rw [if_pos rfl] at hI
            subst hI
            refine ⟨([FleetPeaks.mk (FS m s x x.length).2.2.1 (FS m s x x.length).2.2.2 0], (FS m s x x.length).1, (FS m s x x.length).2.1), rfl, ?_⟩
            simp only [letO_eq]
            rw [lt_true hi, iteB_tr, at_ok hx, bindO_s, fPeaks_L3 gm hm h h1 hg, bindO_s, wrap1 hi (by simp), appN _ _ (by simp) (by simp), bindO_s, bindO_s]
            rfl
          · intro kk b hI
            simp only [letO_eq]
            rw [lt_self, iteB_fa]
            have hI : b = ([FleetPeaks.mk (FS m s l l.length).2.2.1 (FS m s l l.length).2.2.2 0], (FS m s l l.length).1, (FS m s l l.length).2.1) := hI
            subst hI
            rfl
        have j := jn_all gm (s := s) hg l.length
        simp only [Bool.not_true, iteB_fa]
        rw [e2, bindO_s]
        simp only []
        rw [contP_eq _ _ (by simp), bindO_s, j.ps, j.who, j.dif]
        unfold pE psL
        simp only [anyI, Bool.or_false, iteB_dec, iteB_ite, Bool.false_eq_true, if_false, ne_eq, not_true]
        by_cases c3 : ((RS m s l l.length).1.length : Int) < m.Least
        · simp [c3]
        · cases (RS m s l l.length).2.2.2 <;> simp [c3]
    · rw [if_pos c2, if_pos c2]; simp [c2]
  · rw [if_pos c1, if_pos c1]; simp [c1]
theorem iclone_eq (l : List Int) (h : l.length ≤ 20000) : F_slices_Clone___int_int_ l = some l := by
  have e : app' 8 ([] : List Int) l = some l := appN [] l (by simp; omega) (by simp; omega)
  unfold F_slices_Clone___int_int_ nilO
  rw [e]
  simp only [bindO_s, iteB_tr, iteB_fa]
  cases l <;> simp
/-- The element with a rank. -/
theorem quant_eq {l : List Int} {n d : Int} (hl : l.length ≤ 300) (h1 : 1 ≤ l.length) (hd : 1 ≤ d ∧ d ≤ 1000000) (hn : 0 ≤ n ∧ n ≤ d) : ∃ x, F_fleet_quantile l n d = some x ∧ F_ref9_ranked l n d = some x := by
  have hp0 : 0 ≤ n * (l.length : Int) := Int.mul_nonneg hn.1 (by omega)
  have hp1 : n * (l.length : Int) ≤ d * (l.length : Int) := Int.mul_le_mul_of_nonneg_right hn.2 (by omega)
  have hp2 : d * (l.length : Int) ≤ 1000000 * (l.length : Int) := Int.mul_le_mul_of_nonneg_right hd.2 (by omega)
  generalize hP : n * (l.length : Int) = P at hp0 hp1 hp2
  have hPc : (l.length : Int) * n = P := by rw [Int.mul_comm]; exact hP
  have hs := srt_len l
  have hX : X_Sort l = some (srt l) := by unfold X_Sort; rw [if_pos (by omega)]
  have w1 : IntKind.i64.wrap P = P := Go.OB.wrap_i64 (by omega) (by omega)
  have w2 : IntKind.i64.wrap (P + d) = P + d := Go.OB.wrap_i64 (by omega) (by omega)
  have w3 : IntKind.i64.wrap (P + d - 1) = P + d - 1 := Go.OB.wrap_i64 (by omega) (by omega)
  have hq0 : 0 ≤ (P + d - 1) / d := Int.ediv_nonneg (by omega) (by omega)
  have hq1 : (P + d - 1) / d ≤ (l.length : Int) := by
    have : (P + d - 1) / d < (l.length : Int) + 1 := Int.ediv_lt_of_lt_mul (by omega) (by rw [Int.add_mul, Int.mul_comm (l.length : Int) d]; omega)
    omega
  have hq : quo' .i64 (P + d - 1) d = some ((P + d - 1) / d) := by
    unfold quo'
    rw [if_neg (by omega), Int.tdiv_eq_ediv_of_nonneg (by omega), Go.OB.wrap_i64 (by omega) (by omega)]
  generalize (P + d - 1) / d = k at hq0 hq1 hq
  have w4 : IntKind.i64.wrap (max k 1 - 1) = max k 1 - 1 := Go.OB.wrap_i64 (by omega) (by omega)
  obtain ⟨i, hi⟩ : ∃ i : Nat, max k 1 - 1 = (i : Int) := ⟨(max k 1 - 1).toNat, by omega⟩
  have hil : i < (srt l).length := by omega
  refine ⟨(srt l)[i], ?_, ?_⟩
  · unfold F_fleet_quantile
    rw [iclone_eq l (by omega), bindO_s, hX, bindO_s]
    simp only [letO_eq]
    rw [hs, hP, w1, w2, w3, hq, bindO_s, w4, hi, at_ok (List.getElem?_eq_getElem hil), bindO_s]
  · unfold F_ref9_ranked
    simp only [letO_eq]
    rw [hPc, w1, w2, w3, hq, bindO_s, Sorted_eq l (by omega), bindO_s, w4, hi, at_ok (List.getElem?_eq_getElem hil), bindO_s]
theorem fwithin9 (a b c : Int) : F_fleet_within a b c = some (decide (b ≤ a) && decide (a ≤ c)) := fwithin a b c
/-- Both tell the same quantile. -/
theorem Quantile_eq {l : List Flight} {m : Mask} {s : Str} {n d : Int} (h : okL okFlight l) (hm : okMask m) (hs : okS s) : ∃ r, F_fleet_Quantile l m s n d = some r ∧ F_ref9_Quantile l m s n d = some r := by
  obtain ⟨c, hc⟩ := lfF_some l
  obtain ⟨cm, hcm⟩ := mskE_some m
  unfold F_fleet_Quantile F_ref9_Quantile
  simp only [letO_eq]
  rw [peaksOf_eq h hm hs hc hcm, peaksFault_eq h hm hs hc hcm]
  simp only [bindO_s]
  by_cases e1 : pfE c cm s = 0
  · have hc0 : c = 0 := by unfold pfE at e1; split at e1 <;> simp_all
    subst hc0
    have hcm0 : cm = 0 := by unfold pfE at e1; simp only [ne_eq, not_true, if_false] at e1; split at e1 <;> simp_all
    subst hcm0
    have n1 : ¬ (pfE 0 0 s ≠ 0) := fun h => h e1
    have ep : poE m s l 0 0 = pE m s l := by unfold poE; rw [if_neg n1]
    rw [rpeaks_eq h hm hc hcm, ep, decide_eq_false n1, iteB_fa, bindO_s]
    by_cases e2 : pE m s l = 0
    · rw [if_pos e2, if_pos e2, e2]
      simp only [ne_eq, not_true, decide_false, iteB_fa, fwithin, out9, bindO_s, iteB_or2]
      have eb : (!(decide (1 ≤ d) && decide (d ≤ 1000000)) || !(decide (0 ≤ n) && decide (n ≤ d))) = (decide (n < 0) || (decide (d < n) || (decide (d < 1) || decide (1000000 < d)))) := by
        by_cases a1 : 1 ≤ d <;> by_cases a2 : d ≤ 1000000 <;> by_cases a3 : 0 ≤ n <;> by_cases a4 : n ≤ d <;> simp [a1, a2, a3, a4] <;> omega
      rw [eb]
      cases hb : (decide (n < 0) || (decide (d < n) || (decide (d < 1) || decide (1000000 < d))))
      · rw [iteB_fa, iteB_fa]
        simp only [Bool.or_eq_false_iff, decide_eq_false_iff_not] at hb
        obtain ⟨h1, h2⟩ := lfF_zero hc
        have gm2 := good2_of hcm
        have j := jn_all gm2.toGm (s := s) (fun f hf => good_of (h2 f hf)) l.length
        have hps : (psL m s l).length ≤ 300 := Nat.le_trans j.lp h1
        have hleast : (1 : Int) ≤ (psL m s l).length := by
          unfold pE at e2
          split at e2
          · cases e2
          · rename_i hx
            have hx : ¬ ((psL m s l).length : Int) < m.Least := by simpa using hx
            have := least_of hcm
            omega
        obtain ⟨x, x1, x2⟩ := quant_eq (l := psL m s l) (n := n) (d := d) hps (by omega) (by omega) (by omega)
        have a0 : at' [FleetPeaks.mk (psL m s l) (RS m s l l.length).2.1 0] 0 = some (FleetPeaks.mk (psL m s l) (RS m s l l.length).2.1 0) := rfl
        rw [a0, bindO_s]
        simp only []
        rw [x1, x2, bindO_s]
        exact ⟨_, rfl, rfl⟩
      · exact ⟨_, rfl, rfl⟩
    · rw [if_neg e2, if_neg e2, decide_eq_true e2]
      exact ⟨_, rfl, rfl⟩
  · have ep : poE m s l c cm = pfE c cm s := by unfold poE; rw [if_pos e1]
    rw [ep, decide_eq_true e1]
    exact ⟨_, rfl, rfl⟩
end Go.Lf
