/- Walks: what each function computes, for every argument; no condition but those that stand in the statements. -/
import Derived.Test.YtbjhondbheijiaaGreatDoorYNc
import Derived.Test.YtbjhondbheijiaaGreatDoorXY1
namespace Go.Lf
/-- The first program's loop, from what an earlier list left. -/
def FT (m : Mask) (s : Str) (l : List Flight) (i0 : Int × Bool) : Nat → Int × Bool × List Int × List Int
  | 0 => (i0.1, i0.2, [], [])
  | i + 1 => match l[i]? with
    | some f => stF m s i f (FT m s l i0 i)
    | none => FT m s l i0 i
/-- What both loops hold. -/
structure Jt (i : Nat) (i0 : Int × Bool) (a : Int × Bool × List Int × List Int) (b : List Int × List Int × Int × Bool) : Prop where
  ps : a.2.2.1 = b.1
  who : a.2.2.2 = b.2.1
  z : b.2.2.1 = 0 → a.1 = i0.1 ∧ a.2.1 = i0.2 ∧ b.2.2.2 = true ∧ b.1 = []
  nz : b.2.2.1 ≠ 0 → a.2.1 = (i0.2 || (decide (i0.1 ≠ 0) && decide (b.2.2.1 ≠ i0.1)) || !b.2.2.2) ∧ (b.2.2.2 = true → a.1 = b.2.2.1)
theorem jt_all {m : Mask} (gm : Gm m) {s : Str} {l : List Flight} (hg : ∀ f ∈ l, Good f) (i0 : Int × Bool) : ∀ i, Jt i i0 (FT m s l i0 i) (RS m s l i)
  | 0 => ⟨rfl, rfl, fun _ => ⟨rfl, rfl, rfl, rfl⟩, fun h => absurd rfl h⟩
  | i + 1 => by
    have ih := jt_all gm (s := s) hg i0 i
    unfold FT RS
    cases e : l[i]? with
    | none => exact ⟨ih.ps, ih.who, ih.z, ih.nz⟩
    | some f =>
      simp only []
      have g := good_mfl gm (hg f (List.mem_of_getElem? e))
      unfold stF stR
      cases hp : pf m s f with
      | none => exact ⟨ih.ps, ih.who, ih.z, ih.nz⟩
      | some q =>
        obtain ⟨p, d⟩ := q
        have hpd : 1 ≤ d := by
          unfold pf at hp
          split at hp
          · rename_i hc
            cases hp
            exact dn_pos g hc
          · cases hp
        obtain ⟨i1, i2, i3, i4⟩ := ih
        generalize FT m s l i0 i = a at i1 i2 i3 i4 ⊢
        generalize RS m s l i = b at i1 i2 i3 i4 ⊢
        obtain ⟨den, dif, ps, who⟩ := a
        obtain ⟨ps', who', d0, same⟩ := b
        obtain ⟨j1, j2⟩ := i0
        simp only [] at i1 i2 i3 i4
        subst i1; subst i2
        refine ⟨rfl, rfl, ?_, ?_⟩
        · simp only []
          intro h
          exfalso
          by_cases c : d0 = 0
          · rw [if_pos c] at h; omega
          · rw [if_neg c] at h; exact c h
        · simp only []
          intro h
          by_cases c : d0 = 0
          · obtain ⟨h1, h2, h3, h4⟩ := i3 c
            subst h1; subst h2; subst h3
            simp only [c, if_true, decide_true, Bool.and_true, Bool.not_true, Bool.or_false, ne_eq]
            exact ⟨trivial, fun _ => trivial⟩
          · obtain ⟨h1, h2⟩ := i4 c
            simp only [c, if_false]
            subst h1
            cases same with
            | false => simp
            | true =>
              have h3 := h2 rfl
              subst h3
              by_cases c2 : d = den
              · subst c2; simp
              · have c3 : ¬ den = d := fun h => c2 h.symm
                simp [c, c2, c3]
theorem fPeaks_T {m : Mask} (gm : Gm m) (hm : okMask m) {s : Str} {l : List Flight} (h : okL okFlight l) (hl : l.length ≤ 300) (hg : ∀ f ∈ l, Good f) (i0 : Int × Bool) : F_fleet_peaksOf_L3 m s l (l.length : Int) (i0.1, i0.2, 0, [], []) = some (FT m s l i0 l.length) := by
  unfold F_fleet_peaksOf_L3
  refine loopO_eq (fun (i : Nat) (b : Int × Bool × List Int × List Int) => (b.1, b.2.1, (i : Int), b.2.2.1, b.2.2.2)) l (fun i b => b = FT m s l i0 i) _ (by omega) ?_ ?_ (i0.1, i0.2, [], []) rfl
  · intro kk i b f hf hi hI
    have hmem := List.mem_of_getElem? hf
    have g := hg f hmem
    have g2 := good_mfl gm g
    have ok2 := ok_mfl gm g (h.2 f hmem)
    have j := jn_all gm (s := s) hg i
    have jt := jt_all gm (s := s) hg i0 i
    have l1 := j.lp
    have l2 := j.lw
    rw [← jt.ps, ← hI] at l1
    rw [← jt.who, ← hI] at l2
    refine ⟨stF m s i f b, by rw [hI]; conv => rhs; unfold FT; rw [hf], ?_⟩
    obtain ⟨den, dif, ps, who⟩ := b
    simp only [] at l1 l2
    simp only [yE]
    rw [xP hi, yP, wC hf, zL, masked_eq f m gm (okt_of g) hm.2.2.1.1, zL, peak_eq _ g2 ok2, zL, wrap1 hi (by omega)]
    unfold stF pf
    cases hp : (pkOf (mfl m f) s).2 with
    | false => simp [yP, zL, hp]
    | true =>
      obtain ⟨t, t1, t2⟩ := pk_find hp
      have e0 : pkOf (mfl m f) s = ((pkOf (mfl m f) s).1, true) := by rw [← hp]
      rw [e0]
      simp only [Bool.not_true, yS]
      rw [trackOf_eq _ s ok2.2.2.2.2.2.1, zL, t1, zL, t2]
      have e1 : iteB dif (some true) (iteB (decide (den ≠ 0)) (some (decide (t.Series.Den ≠ den))) (some false)) = some (dif || (decide (den ≠ 0) && decide (t.Series.Den ≠ den))) := by
        rw [iteB_and, iteB_or2]
      rw [e1, zL, appN ps _ (by simp; omega) (by simp; omega), zL, appN who _ (by simp; omega) (by simp; omega), zL, zL]
      rfl
  · intro kk b hI
    simp only [yE]
    rw [xQ, yS, hI]
/-- Who has a peak. -/
def whL (m : Mask) (s : Str) (l : List Flight) : List Int := (RS m s l l.length).2.1
def dnL (m : Mask) (s : Str) (l : List Flight) : Int := (RS m s l l.length).2.2.1
def smL (m : Mask) (s : Str) (l : List Flight) : Bool := (RS m s l l.length).2.2.2
/-- What is wrong ahead of the peaks of two lists. -/
def pgE (ca cb cm : Int) (s : Str) : Int := if ca ≠ 0 then ca else pfE cb cm s
/-- What is wrong with the peaks of two lists. -/
def pE2 (m : Mask) (s : Str) (a b : List Flight) : Int :=
  if decide (((psL m s a).length : Int) < m.Least) || decide (((psL m s b).length : Int) < m.Least) then 4 else if !smL m s a || (!smL m s b || decide (dnL m s a ≠ dnL m s b)) then 2 else 0
theorem peaksOf2_eq {a b : List Flight} {m : Mask} {s : Str} (ha : okL okFlight a) (hb : okL okFlight b) (hm : okMask m) (hs : okS s) {ca cb cm : Int} (hca : lfF a = some ca) (hcb : lfF b = some cb) (hcm : mskE m = some cm) :
    F_fleet_peaksOf [a, b] m s = some (if pgE ca cb cm s = 0 then (if pE2 m s a b = 0 then ([FleetPeaks.mk (psL m s a) (whL m s a) 0, FleetPeaks.mk (psL m s b) (whL m s b) 0], 0) else ([], pE2 m s a b)) else ([], pgE ca cb cm s)) := by
  unfold F_fleet_peaksOf
  rw [joinO_eq]
  simp only [yE]
  have q : ∀ k, F_fleet_peaksOf_L1 [a, b] k (([a, b] : List (List Flight)).length : Int) 0 = if ca ≠ 0 then some ([], ca) else if cb ≠ 0 then some ([], cb) else k () := by
    intro k
    have e : F_fleet_peaksOf_L1 [a, b] k (([a, b] : List (List Flight)).length : Int) 0 = findO (fun _ x => if lfF x = some 0 then none else some (bindO (lfF x) fun c => some (([] : List FleetPeaks), c))) (k ()) [a, b] 0 := by
      unfold F_fleet_peaksOf_L1
      refine wE [a, b] _ (k ()) (by simp) ?_ ?_
      · intro kk i x hx hi
        have hox : okL okFlight x ∧ ∃ c, lfF x = some c := by
          have hm := List.mem_of_getElem? hx
          simp only [List.mem_cons, List.not_mem_nil, or_false] at hm
          rcases hm with rfl | rfl
          · exact ⟨ha, _, hca⟩
          · exact ⟨hb, _, hcb⟩
        obtain ⟨hx1, c, hx2⟩ := hox
        simp only [yE]
        rw [xP hi, yP, wC hx, zL, checkFlights_eq x hx1, hx2, zL, wrap1 hi (by simp)]
        by_cases c0 : c = 0
        · subst c0; simp [yS]
        · rw [decide_eq_true c0, yP]; simp [c0, zL]
      · intro kk; simp only [yE]; rw [xQ]; rfl
    rw [e, findO, findO, findO, hca, hcb]
    by_cases c1 : ca = 0
    · by_cases c2 : cb = 0
      · subst c1; subst c2; simp
      · subst c1; simp [c2, zL]
    · simp [c1, zL]
  rw [q, CheckMask_eq m hm, hcm, IsName_eq s hs]
  simp only [zL]
  unfold pgE pfE
  by_cases c1 : ca = 0
  rotate_left
  · rw [if_pos c1, if_pos c1]; simp [c1]
  have n1 : ¬ (ca ≠ 0) := fun h => h c1
  rw [if_neg n1, if_neg n1]
  by_cases c3 : cb = 0
  rotate_left
  · rw [if_pos c3, if_pos c3]; simp [c3]
  have n3 : ¬ (cb ≠ 0) := fun h => h c3
  rw [if_neg n3, if_neg n3, iteB_dec]
  by_cases c2 : cm = 0
  rotate_left
  · rw [if_pos c2, if_pos c2]; simp [c2]
  have n2 : ¬ (cm ≠ 0) := fun h => h c2
  rw [if_neg n2, if_neg n2]
  cases hn : isNm s
  · rfl
  subst c1; subst c2; subst c3
  obtain ⟨a1, a2⟩ := lfF_zero hca
  obtain ⟨b1, b2⟩ := lfF_zero hcb
  have hga : ∀ f ∈ a, Good f := fun f hf => good_of (a2 f hf)
  have hgb : ∀ f ∈ b, Good f := fun f hf => good_of (b2 f hf)
  have gm2 := good2_of hcm
  have gm := gm2.toGm
  have ja := jt_all gm (s := s) hga (0, false) a.length
  obtain ⟨A, hA⟩ : ∃ A, FT m s a (0, false) a.length = A := ⟨_, rfl⟩
  have jb := jt_all gm (s := s) hgb (A.1, A.2.1) b.length
  obtain ⟨B, hB⟩ : ∃ B, FT m s b (A.1, A.2.1) b.length = B := ⟨_, rfl⟩
  have e2 : F_fleet_peaksOf_L2 [a, b] m s (([a, b] : List (List Flight)).length : Int) ([], 0, false, 0) = some ([FleetPeaks.mk A.2.2.1 A.2.2.2 0, FleetPeaks.mk B.2.2.1 B.2.2.2 0], B.2.1) := by
    unfold F_fleet_peaksOf_L2
    refine loopO_eq (fun (i : Nat) (b : List FleetPeaks × Int × Bool) => (b.1, b.2.1, b.2.2, (i : Int))) [a, b] (fun i st => st = if i = 0 then ([], 0, false) else if i = 1 then ([FleetPeaks.mk A.2.2.1 A.2.2.2 0], A.1, A.2.1) else ([FleetPeaks.mk A.2.2.1 A.2.2.2 0, FleetPeaks.mk B.2.2.1 B.2.2.2 0], B.1, B.2.1)) _ (by simp) ?_ ?_ ([], 0, false) rfl
    · intro kk i st x hx hi hI
      have hi2 : i = 0 ∨ i = 1 := by simp at hi; omega
      rcases hi2 with rfl | rfl
      · have hxl : x = a := by simpa using hx.symm
        subst hxl
        have hI : st = ([], 0, false) := hI
        subst hI
        refine ⟨([FleetPeaks.mk A.2.2.1 A.2.2.2 0], A.1, A.2.1), rfl, ?_⟩
        simp only [yE]
        rw [xP hi, yP, wC hx, zL, fPeaks_T gm hm ha a1 hga (0, false), hA, zL, wrap1 hi (by simp), appN _ _ (by simp) (by simp), zL, zL]
        rfl
      · have hxl : x = b := by simpa using hx.symm
        subst hxl
        have hI : st = ([FleetPeaks.mk A.2.2.1 A.2.2.2 0], A.1, A.2.1) := hI
        subst hI
        refine ⟨([FleetPeaks.mk A.2.2.1 A.2.2.2 0, FleetPeaks.mk B.2.2.1 B.2.2.2 0], B.1, B.2.1), rfl, ?_⟩
        simp only [yE]
        rw [xP hi, yP, wC hx, zL, fPeaks_T gm hm hb b1 hgb (A.1, A.2.1), hB, zL, wrap1 hi (by simp), appN _ _ (by simp) (by simp), zL, zL]
        rfl
    · intro kk st hI
      simp only [yE]
      rw [xQ, yS]
      have hI : st = ([FleetPeaks.mk A.2.2.1 A.2.2.2 0, FleetPeaks.mk B.2.2.1 B.2.2.2 0], B.1, B.2.1) := hI
      subst hI
      rfl
  rw [hA] at ja
  rw [hB] at jb
  simp only [Bool.not_true, yS]
  rw [e2, zL]
  simp only []
  rw [contP_eq _ _ (by simp), zL, ja.ps, ja.who, jb.ps, jb.who]
  have hleast := least_of hcm
  unfold pE2 psL whL smL dnL
  have ea : (anyI (fun _ (y : FleetPeaks) => decide ((y.l.length : Int) < m.Least)) [FleetPeaks.mk (RS m s a a.length).1 (RS m s a a.length).2.1 0, FleetPeaks.mk (RS m s b b.length).1 (RS m s b b.length).2.1 0] 0) = (decide (((RS m s a a.length).1.length : Int) < m.Least) || decide (((RS m s b b.length).1.length : Int) < m.Least)) := by
    simp only [anyI, Bool.or_false]
  rw [ea]
  cases hc4 : (decide (((RS m s a a.length).1.length : Int) < m.Least) || decide (((RS m s b b.length).1.length : Int) < m.Least)) with
  | true => rfl
  | false =>
    simp only [Bool.or_eq_false_iff, decide_eq_false_iff_not] at hc4
    have da : (RS m s a a.length).2.2.1 ≠ 0 := fun h => by
      have := (ja.z h).2.2.2
      rw [this] at hc4
      have h0 := hc4.1
      simp only [List.length_nil] at h0
      omega
    have db : (RS m s b b.length).2.2.1 ≠ 0 := fun h => by
      have := (jb.z h).2.2.2
      rw [this] at hc4
      have h0 := hc4.2
      simp only [List.length_nil] at h0
      omega
    obtain ⟨x1, x2⟩ := ja.nz da
    obtain ⟨y1, y2⟩ := jb.nz db
    have hd : B.2.1 = (!(RS m s a a.length).2.2.2 || (!(RS m s b b.length).2.2.2 || decide ((RS m s a a.length).2.2.1 ≠ (RS m s b b.length).2.2.1))) := by
      rw [y1, x1]
      simp only [ne_eq, not_true, decide_false, Bool.false_and, Bool.or_false, Bool.false_or]
      cases hsa : (RS m s a a.length).2.2.2 with
      | false => rfl
      | true =>
        rw [x2 hsa]
        simp only [Bool.not_true, Bool.false_or, da, not_false_eq_true, decide_true, Bool.true_and]
        rw [Bool.or_comm]
        congr 1
        exact decide_eq_decide.2 ⟨fun h h2 => h h2.symm, fun h h2 => h h2.symm⟩
    rw [hd, yS]
    simp only [Bool.false_eq_true, if_false]
    cases (!(RS m s a a.length).2.2.2 || (!(RS m s b b.length).2.2.2 || decide ((RS m s a a.length).2.2.1 ≠ (RS m s b b.length).2.2.1))) <;> rfl
end Go.Lf
namespace Go.Lf
section
variable {α β γ σ : Type}
/-- A loop that keeps an invariant. -/
theorem loopO_inv {body : (γ → Option β) → γ → Option β} (enc : Nat → σ → γ) (l : List α) (I : Nat → σ → Prop) (R : β → Prop) (hl : l.length ≤ 9223372036854775807)
    (h : ∀ k i s x, l[i]? = some x → i < l.length → I i s → ∃ s', I (i + 1) s' ∧ body k (enc i s) = k (enc (i + 1) s')) (hx : ∀ k s, I l.length s → ∃ r, body k (enc l.length s) = some r ∧ R r) (s : σ) (h0 : I 0 s) :
    ∃ r, loopO body (enc 0 s) = some r ∧ R r := loopN_inv enc l I R h hx l.length 0 s FU (by omega) (FU_big hl) h0
end
theorem app1 (p q : List Int) (h : p.length + q.length ≤ 140737488355328) : app' 1 p q = some (p ++ q) := by
  unfold app'
  rw [if_pos ⟨by rw [Go.OB.maxLen_eq]; omega, by omega⟩]
theorem AppendUint_ex (p : List Int) (n : Int) (hn : 0 ≤ n ∧ n ≤ 18446744073709551615) (h : p.length + 20 ≤ 140737488355328) : ∃ q, X_AppendUint p n 10 = some q ∧ q.length ≤ p.length + 20 := by
  unfold X_AppendUint
  rw [if_pos ⟨rfl, hn.1, hn.2, h⟩]
  refine ⟨_, rfl, ?_⟩
  rw [List.length_append, nums_len, Lib.decDigits_length]
  have := Lib.nDigits_le20 n.toNat (by omega)
  omega
theorem u64_rng (n : Int) : 0 ≤ IntKind.u64.wrap n ∧ IntKind.u64.wrap n ≤ 18446744073709551615 := by
  rw [IntKind.wrap_u64]; omega
theorem AppendInt_ex (p : List Int) (n : Int) (h : p.length + 21 ≤ 140737488355328) : ∃ q, F_strconv_AppendInt p n 10 = some q ∧ q.length ≤ p.length + 21 := by
  have e : ∃ q, F_internal_strconv_AppendInt p n 10 = some q ∧ q.length ≤ p.length + 21 := by
    unfold F_internal_strconv_AppendInt
    simp only [yE, iteB_dec]
    by_cases c : n < 0
    · have ha := app1 p [45] (by simp; omega)
      rw [if_pos c, ha, zL, zL]
      obtain ⟨q, h1, h2⟩ := AppendUint_ex (p ++ [45]) (IntKind.u64.wrap (-IntKind.u64.wrap n)) (u64_rng _) (by simp; omega)
      simp only []
      rw [h1, zL]
      exact ⟨q, rfl, by simp at h2; omega⟩
    · rw [if_neg c, zL]
      obtain ⟨q, h1, h2⟩ := AppendUint_ex p (IntKind.u64.wrap n) (u64_rng _) (by omega)
      simp only []
      rw [h1, zL]
      exact ⟨q, rfl, by omega⟩
  obtain ⟨q, h1, h2⟩ := e
  unfold F_strconv_AppendInt
  rw [h1, zL]
  exact ⟨q, rfl, h2⟩
/-- An ink's text is at most so long. -/
def Gr (r : Option Orangeboxref0Ink) (n : Nat) : Prop := ∃ q, r = some q ∧ q.out.length ≤ n
theorem Gr.bind {a : Option Orangeboxref0Ink} {k : Orangeboxref0Ink → Option Orangeboxref0Ink} {n m : Nat} (h : Gr a n) (hk : ∀ q, q.out.length ≤ n → Gr (k q) m) : Gr (bindO a k) m := by
  obtain ⟨q, h1, h2⟩ := h
  rw [h1, zL]; exact hk q h2
theorem Gr.some {q : Orangeboxref0Ink} {n : Nat} (h : q.out.length ≤ n) : Gr (Option.some q) n := ⟨q, rfl, h⟩
theorem ink_Int (p : Orangeboxref0Ink) (n : Int) {b : Nat} (hp : p.out.length ≤ b) (h : b ≤ 100000000000000) : Gr (F_ref0_Ink_Int p n) (b + 22) := by
  obtain ⟨q, h1, h2⟩ := AppendInt_ex p.out n (by omega)
  unfold F_ref0_Ink_Int
  rw [h1, zL]
  simp only [yE]
  rw [app1 q [32] (by simp; omega), zL]
  exact Gr.some (by simp; omega)
theorem ink_Ints (p : Orangeboxref0Ink) (l : List Int) {b : Nat} (hp : p.out.length ≤ b) (h : b + 22 + 22 * l.length ≤ 100000000000000) : Gr (F_ref0_Ink_Ints p l) (b + 22 + 22 * l.length) := by
  unfold F_ref0_Ink_Ints
  simp only [yE]
  refine (ink_Int p _ hp (by omega)).bind fun q hq => ?_
  unfold F_ref0_Ink_Ints_L1
  refine loopO_inv (fun (i : Nat) (s : List Int) => ((i : Int), s)) l (fun i s => s.length ≤ b + 22 + 22 * i) (fun (r : Orangeboxref0Ink) => r.out.length ≤ b + 22 + 22 * l.length) (by omega) ?_ ?_ _ (by simpa using hq)
  · intro kk i s x hx hi hI
    obtain ⟨r, h1, h2⟩ := ink_Int (Orangeboxref0Ink.mk s) x hI (by omega)
    refine ⟨r.out, by omega, ?_⟩
    simp only [yE]
    rw [xP hi, yP, wC hx, zL, h1, zL, wrap1 hi (by omega)]
  · intro kk s hI
    simp only [yE]
    rw [xQ, yS]
    exact ⟨_, rfl, hI⟩
def sumL : List Int → Int
  | [] => 0
  | x :: l => x + sumL l
theorem sumL_app (l : List Int) (x : Int) : sumL (l ++ [x]) = sumL l + x := by
  induction l with
  | nil => simp [sumL]
  | cons y l ih => simp only [List.cons_append, sumL, ih]; omega
theorem sumL_rng : ∀ (l : List Int), (∀ p ∈ l, -1125899906842624 ≤ p ∧ p ≤ 1125899906842624) → -1125899906842624 * (l.length : Int) ≤ sumL l ∧ sumL l ≤ 1125899906842624 * (l.length : Int)
  | [], _ => by simp [sumL]
  | x :: l, h => by
    have h1 := h x (List.mem_cons_self ..)
    have h2 := sumL_rng l (fun p hp => h p (List.mem_cons_of_mem _ hp))
    simp only [sumL, List.length_cons, Int.natCast_add, Int.natCast_one]
    omega
theorem sum_step {l : List Int} (hl : l.length ≤ 300) (h : ∀ p ∈ l, -1125899906842624 ≤ p ∧ p ≤ 1125899906842624) {i : Nat} {x : Int} (hx : l[i]? = some x) (hi : i < l.length) : IntKind.i64.wrap (sumL (l.take i) + x) = sumL (l.take (i + 1)) := by
  have e : l.take (i + 1) = l.take i ++ [x] := by rw [List.take_add_one, hx]; rfl
  have h1 := sumL_rng (l.take i) (fun p hp => h p (List.mem_of_mem_take hp))
  have h2 := h x (List.mem_of_getElem? hx)
  have h3 : (l.take i).length ≤ 300 := by rw [List.length_take]; omega
  rw [e, sumL_app, Go.OB.wrap_i64 (by omega) (by omega)]
theorem fsum_eq {l : List Int} (hl : l.length ≤ 300) (h : ∀ p ∈ l, -1125899906842624 ≤ p ∧ p ≤ 1125899906842624) : F_fleet_sum l = some (sumL l) := by
  have e : F_fleet_sum_L1 l (l.length : Int) (0, 0) = some (sumL l) := by
    unfold F_fleet_sum_L1
    refine loopO_eq (fun (i : Nat) (b : Int) => (b, (i : Int))) l (fun i b => b = sumL (l.take i)) _ (by omega) ?_ ?_ 0 rfl
    · intro kk i b x hx hi hI
      subst hI
      refine ⟨_, rfl, ?_⟩
      simp only [yE]
      rw [xP hi, yP, wC hx, zL, wrap1 hi (by omega), sum_step hl h hx hi]
    · intro kk b hI
      subst hI
      simp only [yE]
      rw [xQ, yS, List.take_length]
  unfold F_fleet_sum
  simp only [yE]
  rw [e, zL]
theorem rsum_eq {l : List Int} (hl : l.length ≤ 300) (h : ∀ p ∈ l, -1125899906842624 ≤ p ∧ p ≤ 1125899906842624) : F_ref9_sum l = some (sumL l) := by
  have e : F_ref9_sum_L1 l (0, 0) = some (sumL l) := by
    unfold F_ref9_sum_L1
    refine loopO_eq (fun (i : Nat) (b : Int) => (b, (i : Int))) l (fun i b => b = sumL (l.take i)) _ (by omega) ?_ ?_ 0 rfl
    · intro kk i b x hx hi hI
      subst hI
      refine ⟨_, rfl, ?_⟩
      simp only [yE]
      rw [xP hi, yP, wC hx, zL, wrap1 hi (by omega), sum_step hl h hx hi]
    · intro kk b hI
      subst hI
      simp only [yE]
      rw [xQ, yS, List.take_length]
  unfold F_ref9_sum
  rw [e, zL]
theorem totals_ok : F_law9_totals = some true := by decide +kernel
theorem ink_Lists1 (p : Orangeboxref0Ink) (l : List Int) {b : Nat} (hp : p.out.length ≤ b) (h : b + 44 + 22 * l.length ≤ 100000000000000) : Gr (F_ref0_Ink_Lists p [l]) (b + 44 + 22 * l.length) := by
  unfold F_ref0_Ink_Lists
  simp only [yE]
  refine (ink_Int p _ hp (by omega)).bind fun q hq => ?_
  unfold F_ref0_Ink_Lists_L1
  refine loopO_inv (fun (i : Nat) (s : List Int) => ((i : Int), s)) [l] (fun i s => s.length ≤ b + 22 + (22 + 22 * l.length) * i) (fun (r : Orangeboxref0Ink) => r.out.length ≤ b + 44 + 22 * l.length) (by simp) ?_ ?_ _ (by simpa using hq)
  · intro kk i s x hx hi hI
    have hi0 : i = 0 := by simp at hi; exact hi
    subst hi0
    have hxl : x = l := by simpa using hx.symm
    subst hxl
    obtain ⟨r, h1, h2⟩ := ink_Ints (Orangeboxref0Ink.mk s) x (b := b + 22) (by simpa using hI) (by omega)
    refine ⟨r.out, by omega, ?_⟩
    simp only [yE]
    rw [xP hi, yP, wC hx, zL, h1, zL, wrap1 hi (by simp)]
  · intro kk s hI
    simp only [yE]
    rw [xQ, yS]
    refine ⟨_, rfl, ?_⟩
    have hI : s.length ≤ b + 22 + (22 + 22 * l.length) * 1 := hI
    show s.length ≤ _
    omega
theorem ints_ex (l : List Int) (e : Int) (h : l.length ≤ 300) : ∃ t, F_law9_ints l e = some t := by
  unfold F_law9_ints F_law9_lists
  simp only [yE]
  obtain ⟨q, h1, h2⟩ := ink_Lists1 (Orangeboxref0Ink.mk []) l (b := 0) (by simp) (by omega)
  rw [h1, zL]
  obtain ⟨r, h3, h4⟩ := ink_Int q e h2 (by omega)
  unfold F_ref0_Ink_Errno F_ref0_Ink_Told
  rw [h3, zL, zL]
  exact ⟨_, rfl⟩
end Go.Lf
namespace Go.Lf
/-- What is told of two lists. -/
def apO (m : Mask) (s : Str) (a b : List Flight) (ca cb cm : Int) : Ratio × Int :=
  if pgE ca cb cm s = 0 then (if pE2 m s a b = 0 then rA (sumL (psL m s a) * ((psL m s b).length : Int) - sumL (psL m s b) * ((psL m s a).length : Int)) ((psL m s a).length * (psL m s b).length) else (Ratio.mk 0 0, pE2 m s a b)) else (Ratio.mk 0 0, pgE ca cb cm s)
structure Pk (m : Mask) (s : Str) (l : List Flight) : Prop where
  len : (psL m s l).length ≤ 300
  rng : ∀ p ∈ psL m s l, -1125899906842624 ≤ p ∧ p ≤ 1125899906842624
theorem pk_of {m : Mask} {s : Str} {l : List Flight} (hc : lfF l = some 0) (hcm : mskE m = some 0) : Pk m s l := by
  obtain ⟨h1, h2⟩ := lfF_zero hc
  have gm2 := good2_of hcm
  have j := jn_all gm2.toGm (s := s) (fun f hf => good_of (h2 f hf)) l.length
  exact ⟨Nat.le_trans j.lp h1, j.rng⟩
theorem Pk.sum {m : Mask} {s : Str} {l : List Flight} (h : Pk m s l) : (sumL (psL m s l)).natAbs ≤ 337769972052787200 := by
  have := sumL_rng _ h.rng
  have := h.len
  omega
theorem pg_zero {ca cb cm : Int} {s : Str} (h : pgE ca cb cm s = 0) : ca = 0 ∧ cb = 0 ∧ cm = 0 ∧ isNm s = true := by
  unfold pgE pfE at h
  by_cases c1 : ca = 0
  · by_cases c2 : cb = 0
    · by_cases c3 : cm = 0
      · cases hn : isNm s
        · simp [c1, c2, c3, hn] at h
        · exact ⟨c1, c2, c3, rfl⟩
      · simp [c1, c2, c3] at h
    · simp [c1, c2] at h
  · simp [c1] at h
theorem pE2_zero {m : Mask} {s : Str} {a b : List Flight} (h : pE2 m s a b = 0) : ¬ ((psL m s a).length : Int) < m.Least ∧ ¬ ((psL m s b).length : Int) < m.Least ∧ smL m s a = true ∧ smL m s b = true ∧ dnL m s a = dnL m s b := by
  unfold pE2 at h
  by_cases c1 : ((psL m s a).length : Int) < m.Least
  · simp [c1] at h
  · by_cases c2 : ((psL m s b).length : Int) < m.Least
    · simp [c2] at h
    · cases c3 : smL m s a <;> cases c4 : smL m s b <;> by_cases c5 : dnL m s a = dnL m s b <;> simp [c1, c2, c3, c4, c5] at h ⊢
theorem fApart_eq {a b : List Flight} {m : Mask} {s : Str} (ha : okL okFlight a) (hb : okL okFlight b) (hm : okMask m) (hs : okS s) {ca cb cm : Int} (hca : lfF a = some ca) (hcb : lfF b = some cb) (hcm : mskE m = some cm) :
    F_fleet_Apart a b m s = some (apO m s a b ca cb cm) := by
  unfold F_fleet_Apart apO
  simp only [yE]
  rw [peaksOf2_eq ha hb hm hs hca hcb hcm, zL]
  by_cases e1 : pgE ca cb cm s = 0
  rotate_left
  · rw [if_neg e1, if_neg e1, decide_eq_true e1]; rfl
  rw [if_pos e1, if_pos e1]
  obtain ⟨rfl, rfl, rfl, _⟩ := pg_zero e1
  by_cases e2 : pE2 m s a b = 0
  rotate_left
  · rw [if_neg e2, if_neg e2, decide_eq_true e2]; rfl
  rw [if_pos e2, if_pos e2]
  obtain ⟨l1, l2, _⟩ := pE2_zero e2
  have hl := least_of hcm
  have pa := pk_of (s := s) hca hcm
  have pb := pk_of (s := s) hcb hcm
  simp only [ne_eq, not_true, decide_false, yS]
  have a0 : ∀ x y : FleetPeaks, at' [x, y] 0 = some x := fun _ _ => rfl
  have a1 : ∀ x y : FleetPeaks, at' [x, y] 1 = some y := fun _ _ => rfl
  rw [a0, a1]
  simp only [zL]
  rw [fsum_eq pa.len pa.rng, zL, fsum_eq pb.len pb.rng, zL]
  obtain ⟨q1, q2, q3, q4, r, b', q5, q6⟩ := apart_mixed (s := sumL (psL m s a)) (t := sumL (psL m s b)) (n := (psL m s a).length) (k := (psL m s b).length) (by omega) pa.len (by omega) pb.len pa.sum pb.sum
  rw [q1, zL, q2, zL, q3, zL, q4, zL, q5, zL]
  exact q6
theorem rApart_eq {a b : List Flight} {m : Mask} {s : Str} (ha : okL okFlight a) (hb : okL okFlight b) (hm : okMask m) (hs : okS s) {ca cb cm : Int} (hca : lfF a = some ca) (hcb : lfF b = some cb) (hcm : mskE m = some cm) :
    F_ref9_Apart a b m s = some (apO m s a b ca cb cm) := by
  unfold F_ref9_Apart apO
  simp only [yE]
  rw [listFault_eq a ha, hca, zL, peaksFault_eq hb hm hs hcb hcm, zL]
  have epg : pgE ca cb cm s = if ca ≠ 0 then ca else pfE cb cm s := rfl
  by_cases c1 : ca = 0
  rotate_left
  · rw [epg, if_pos c1, if_neg c1, decide_eq_true c1, yP]
  have n1 : ¬ (ca ≠ 0) := fun h => h c1
  rw [epg, if_neg n1, decide_eq_false n1, yS]
  by_cases c2 : pfE cb cm s = 0
  rotate_left
  · rw [if_neg c2, decide_eq_true c2, yP]
  have n2 : ¬ (pfE cb cm s ≠ 0) := fun h => h c2
  rw [if_pos c2, decide_eq_false n2, yS]
  obtain ⟨rfl, rfl, rfl, _⟩ := pg_zero (show pgE ca cb cm s = 0 by rw [epg, if_neg n1]; exact c2)
  rw [rpeaks_eq ha hm hca hcm, rpeaks_eq hb hm hcb hcm, zL, zL]
  have hl := least_of hcm
  have pa := pk_of (s := s) hca hcm
  have pb := pk_of (s := s) hcb hcm
  by_cases d1 : ((psL m s a).length : Int) < m.Least
  · have e1 : pE m s a = 4 := by unfold pE; simp [d1]
    have e2 : pE2 m s a b = 4 := by unfold pE2; simp [d1]
    rw [e1, e2]
    rfl
  by_cases d2 : ((psL m s b).length : Int) < m.Least
  · have e1 : pE m s b = 4 := by unfold pE; simp [d2]
    have e2 : pE2 m s a b = 4 := by unfold pE2; simp [d2]
    have e3 : pE m s a = 0 ∨ pE m s a = 2 := by unfold pE; cases (RS m s a a.length).2.2.2 <;> simp [d1]
    rw [e1, e2]
    rcases e3 with e3 | e3 <;> rw [e3] <;> rfl
  have f1 : pE m s a = if smL m s a = true then 0 else 2 := by unfold pE smL; cases (RS m s a a.length).2.2.2 <;> simp [d1]
  have f2 : pE m s b = if smL m s b = true then 0 else 2 := by unfold pE smL; cases (RS m s b b.length).2.2.2 <;> simp [d2]
  have f3 : pE2 m s a b = if smL m s a = true ∧ smL m s b = true ∧ dnL m s a = dnL m s b then 0 else 2 := by
    unfold pE2
    rw [decide_eq_false d1, decide_eq_false d2]
    cases smL m s a <;> cases smL m s b <;> by_cases c5 : dnL m s a = dnL m s b <;> simp [c5]
  rw [f1, f2, f3]
  cases c3 : smL m s a with
  | false => cases smL m s b <;> simp [yP, yS, zL]
  | true =>
    cases c4 : smL m s b with
    | false => simp [yP, yS, zL]
    | true =>
      have da : (RS m s a a.length).2.2.1 = dnL m s a := rfl
      have db : (RS m s b b.length).2.2.1 = dnL m s b := rfl
      rw [da, db]
      by_cases c5 : dnL m s a = dnL m s b
      · simp only [c5, if_true, and_self, ne_eq, not_true, decide_false, yS, zL, show decide ((0 : Int) = 4) = false from rfl]
        obtain ⟨x, y, z, t1, t2, t3, t4⟩ := plus_told (s := sumL (psL m s a)) (t := sumL (psL m s b)) (n := (psL m s a).length) (k := (psL m s b).length) (by omega) pa.len (by omega) pb.len pa.sum pb.sum
        have hneg : IntKind.i64.wrap (-sumL (psL m s b)) = -sumL (psL m s b) := by
          have := pb.sum
          exact Go.OB.wrap_i64 (by omega) (by omega)
        have hD2 : (psL m s a).length * (psL m s b).length ≤ 300 * 300 := Nat.mul_le_mul pa.len pb.len
        have hD : IntKind.u64.wrap (IntKind.i64.wrap (((psL m s a).length : Int) * ((psL m s b).length : Int))) = (((psL m s a).length * (psL m s b).length : Nat) : Int) := by
          rw [← Int.natCast_mul, Go.OB.wrap_i64 (by omega) (by omega), w64n (by omega)]
        rw [rsum_eq pa.len pa.rng, zL, t1, zL, rsum_eq pb.len pb.rng, zL, hneg, t2, zL, t3, zL, hD, t4, zL]
      · simp [c5, yP, yS, zL]
theorem rA_neg {X : Int} {D : Nat} (h : (rA X D).2 = 0) : (rA (-X) D).2 = 0 ∧ (rA (-X) D).1.Num = -(rA X D).1.Num ∧ (rA (-X) D).1.Den = (rA X D).1.Den ∧ -4611686018427387904 ≤ (rA X D).1.Num ∧ (rA X D).1.Num ≤ 4611686018427387904 := by
  unfold rA at h ⊢
  rw [Int.natAbs_neg]
  by_cases c : X.natAbs / Nat.gcd X.natAbs D ≤ 4611686018427387904
  · rw [if_pos c, if_pos c]
    have hn : (X.tdiv (Nat.gcd X.natAbs D : Nat)).natAbs ≤ 4611686018427387904 := by rw [Int.natAbs_tdiv, Int.natAbs_natCast]; exact c
    exact ⟨rfl, Int.neg_tdiv .., rfl, by show _ ≤ X.tdiv _; omega, by show X.tdiv _ ≤ _; omega⟩
  · rw [if_neg c] at h; cases h
theorem apO_swap {m : Mask} {s : Str} {a b : List Flight} {ca cb cm : Int} (h : (apO m s a b ca cb cm).2 = 0) :
    (apO m s b a cb ca cm).2 = 0 ∧ (apO m s b a cb ca cm).1.Num = -(apO m s a b ca cb cm).1.Num ∧ (apO m s b a cb ca cm).1.Den = (apO m s a b ca cb cm).1.Den ∧ -4611686018427387904 ≤ (apO m s a b ca cb cm).1.Num ∧ (apO m s a b ca cb cm).1.Num ≤ 4611686018427387904 := by
  unfold apO at h ⊢
  by_cases e1 : pgE ca cb cm s = 0
  rotate_left
  · rw [if_neg e1] at h; exact absurd h e1
  obtain ⟨rfl, rfl, rfl, _⟩ := pg_zero e1
  rw [if_pos e1, if_pos e1]
  rw [if_pos e1] at h
  by_cases e2 : pE2 m s a b = 0
  rotate_left
  · rw [if_neg e2] at h; exact absurd h e2
  have e3 : pE2 m s b a = 0 := by
    obtain ⟨l1, l2, l3, l4, l5⟩ := pE2_zero e2
    unfold pE2; simp [l1, l2, l3, l4, l5]
  rw [if_pos e2, if_pos e3]
  rw [if_pos e2] at h
  have eX : sumL (psL m s b) * ((psL m s a).length : Int) - sumL (psL m s a) * ((psL m s b).length : Int) = -(sumL (psL m s a) * ((psL m s b).length : Int) - sumL (psL m s b) * ((psL m s a).length : Int)) := by omega
  rw [eX, Nat.mul_comm (psL m s b).length]
  exact rA_neg h
/-! ### Odd flights -/
def dst (mid : Int) (l : List Int) : List Int := l.map fun p => max (IntKind.i64.wrap (p - mid)) (IntKind.i64.wrap (mid - p))
def og (most : Int) (ds who : List Int) : Nat → List Int
  | 0 => []
  | i + 1 => match ds[i]?, who[i]? with
    | some d, some x => if most < d then og most ds who i ++ [x] else og most ds who i
    | _, _ => og most ds who i
theorem og_len (most : Int) (ds who : List Int) : ∀ i, (og most ds who i).length ≤ i
  | 0 => Nat.le_refl _
  | i + 1 => by
    have := og_len most ds who i
    unfold og
    split
    · split
      · rw [List.length_append]; simp; exact this
      · omega
    · omega
theorem rs_len {m : Mask} {s : Str} {l : List Flight} : ∀ i, (RS m s l i).1.length = (RS m s l i).2.1.length
  | 0 => rfl
  | i + 1 => by
    have ih := rs_len (m := m) (s := s) (l := l) i
    unfold RS
    split
    · unfold stR
      split
      · simp only [List.length_append, List.length_cons, List.length_nil]; omega
      · exact ih
    · exact ih
theorem wh_len (m : Mask) (s : Str) (l : List Flight) : (psL m s l).length = (whL m s l).length := rs_len _
theorem dst_take {mid : Int} {l : List Int} {i : Nat} {x : Int} (hx : l[i]? = some x) : (dst mid (l.take i)) ++ [max (IntKind.i64.wrap (x - mid)) (IntKind.i64.wrap (mid - x))] = dst mid (l.take (i + 1)) := by
  have e : l.take (i + 1) = l.take i ++ [x] := by rw [List.take_add_one, hx]; rfl
  rw [e]; unfold dst; rw [List.map_append]; rfl
theorem fOdd1 {mid : Int} {p : FleetPeaks} (hl : p.l.length ≤ 300) : F_fleet_Odd_L1 mid p (p.l.length : Int) ([], 0) = some (dst mid p.l) := by
  unfold F_fleet_Odd_L1
  refine loopO_eq (fun (i : Nat) (b : List Int) => (b, (i : Int))) p.l (fun i b => b = dst mid (p.l.take i)) _ (by omega) ?_ ?_ [] rfl
  · intro kk i b x hx hi hI
    subst hI
    refine ⟨_, rfl, ?_⟩
    simp only [yE]
    have hb : (dst mid (p.l.take i)).length ≤ 300 := by unfold dst; rw [List.length_map, List.length_take]; omega
    rw [xP hi, yP, wC hx, zL, appN _ _ (by simp; omega) (by simp; omega), zL, wrap1 hi (by omega), dst_take hx]
  · intro kk b hI
    subst hI
    simp only [yE]
    rw [xQ, yS, List.take_length]
theorem rOdd1 {mid : Int} {l : List Int} (hl : l.length ≤ 300) : F_ref9_Odd_L1 l mid ([], 0) = some (dst mid l) := by
  unfold F_ref9_Odd_L1
  refine loopO_eq (fun (i : Nat) (b : List Int) => (b, (i : Int))) l (fun i b => b = dst mid (l.take i)) _ (by omega) ?_ ?_ [] rfl
  · intro kk i b x hx hi hI
    subst hI
    refine ⟨_, rfl, ?_⟩
    simp only [yE]
    have hb : (dst mid (l.take i)).length ≤ 300 := by unfold dst; rw [List.length_map, List.length_take]; omega
    rw [xP hi, yP, wC hx, zL, zL, appN _ _ (by simp; omega) (by simp; omega), zL, wrap1 hi (by omega), dst_take hx]
  · intro kk b hI
    subst hI
    simp only [yE]
    rw [xQ, yS, List.take_length]
theorem og_step {most : Int} {ds who : List Int} {i : Nat} {d x : Int} (hd : ds[i]? = some d) (hx : who[i]? = some x) (hi : i < 300) :
    iteB (decide (most < d)) (bindO (app' 8 (og most ds who i) [x]) fun z => some z) (some (og most ds who i)) = some (og most ds who (i + 1)) := by
  have h1 := og_len most ds who i
  conv => rhs; unfold og
  rw [hd, hx]
  simp only []
  rw [iteB_dec]
  split
  · rw [appN _ _ (by simp; omega) (by simp; omega)]; rfl
  · rfl
theorem fOdd2 {most : Int} {ds : List Int} {p : FleetPeaks} (hl : ds.length ≤ 300) (hw : p.flights.length = ds.length) : F_fleet_Odd_L2 [p] ds most (ds.length : Int) ([], 0) = some (og most ds p.flights ds.length) := by
  unfold F_fleet_Odd_L2
  refine loopO_eq (fun (i : Nat) (b : List Int) => (b, (i : Int))) ds (fun i b => b = og most ds p.flights i) _ (by omega) ?_ ?_ [] rfl
  · intro kk i b d hd hi hI
    subst hI
    refine ⟨_, rfl, ?_⟩
    obtain ⟨x, hx⟩ : ∃ x, p.flights[i]? = some x := ⟨_, List.getElem?_eq_getElem (by omega)⟩
    have a0 : at' [p] 0 = some p := rfl
    have st := og_step (most := most) hd hx (by omega)
    simp only [yE]
    rw [xP hi, yP, wC hd, zL, a0, zL, wC hx, zL, st, zL, wrap1 hi (by omega)]
  · intro kk b hI
    subst hI
    simp only [yE]
    rw [xQ, yS]
theorem rOdd2 {most : Int} {l ds who : List Int} (hl : l.length ≤ 300) (hd : ds.length = l.length) (hw : who.length = l.length) : F_ref9_Odd_L2 l who ds most ([], 0) = some (og most ds who ds.length) := by
  unfold F_ref9_Odd_L2
  refine loopO_eq (fun (i : Nat) (b : List Int) => (b, (i : Int))) ds (fun i b => b = og most ds who i) _ (by omega) ?_ ?_ [] rfl
  · intro kk i b d hdi hi hI
    subst hI
    refine ⟨_, rfl, ?_⟩
    obtain ⟨x, hx⟩ : ∃ x, who[i]? = some x := ⟨_, List.getElem?_eq_getElem (by omega)⟩
    have st := og_step (most := most) hdi hx (by omega)
    simp only [yE]
    rw [← hd, xP hi, yP, wC hdi, zL, wC hx, zL, st, zL, wrap1 hi (by omega)]
  · intro kk b hI
    subst hI
    simp only [yE]
    rw [← hd, xQ, yS]
/-- Both tell the same odd flights. -/
theorem Odd_eq {l : List Flight} {m : Mask} {s : Str} {n : Int} (h : okL okFlight l) (hm : okMask m) (hs : okS s) : ∃ r : List Int × Int, F_fleet_Odd l m s n = some r ∧ F_ref9_Odd l m s n = some r ∧ r.1.length ≤ 300 := by
  obtain ⟨c, hc⟩ := lfF_some l
  obtain ⟨cm, hcm⟩ := mskE_some m
  unfold F_fleet_Odd F_ref9_Odd
  simp only [yE]
  rw [peaksOf_eq h hm hs hc hcm, peaksFault_eq h hm hs hc hcm]
  simp only [zL]
  by_cases e1 : pfE c cm s = 0
  · have hc0 : c = 0 := by unfold pfE at e1; split at e1 <;> simp_all
    subst hc0
    have hcm0 : cm = 0 := by unfold pfE at e1; simp only [ne_eq, not_true, if_false] at e1; split at e1 <;> simp_all
    subst hcm0
    have n1 : ¬ (pfE 0 0 s ≠ 0) := fun h => h e1
    have ep : poE m s l 0 0 = pE m s l := by unfold poE; rw [if_neg n1]
    rw [rpeaks_eq h hm hc hcm, ep, decide_eq_false n1, yS, zL]
    by_cases e2 : pE m s l = 0
    · rw [if_pos e2, if_pos e2, e2]
      simp only [ne_eq, not_true, decide_false, yS, fwithin, out9, zL]
      have eb : (!(decide (1 ≤ n) && decide (n ≤ 1000))) = (decide (n < 1) || decide (1000 < n)) := by
        by_cases a1 : 1 ≤ n <;> by_cases a2 : n ≤ 1000 <;> simp [a1, a2] <;> omega
      rw [eb]
      cases hb : (decide (n < 1) || decide (1000 < n))
      · rw [yS, yS]
        have pk := pk_of (s := s) hc hcm
        have hleast : (1 : Int) ≤ (psL m s l).length := by
          unfold pE at e2
          split at e2
          · cases e2
          · rename_i hx
            have hx : ¬ ((psL m s l).length : Int) < m.Least := by simpa using hx
            have := least_of hcm
            omega
        obtain ⟨x, x1, x2⟩ := quant_eq (l := psL m s l) (n := 1) (d := 2) pk.len (by omega) (by omega) (by omega)
        have hdl : (dst x (psL m s l)).length = (psL m s l).length := by unfold dst; rw [List.length_map]
        obtain ⟨y, y1, y2⟩ := quant_eq (l := dst x (psL m s l)) (n := 1) (d := 2) (by rw [hdl]; exact pk.len) (by omega) (by omega) (by omega)
        have a0 : at' [FleetPeaks.mk (psL m s l) (RS m s l l.length).2.1 0] 0 = some (FleetPeaks.mk (psL m s l) (RS m s l l.length).2.1 0) := rfl
        have hw : (RS m s l l.length).2.1.length = (psL m s l).length := (wh_len m s l).symm
        have f1 := fOdd1 (mid := x) (p := FleetPeaks.mk (psL m s l) (RS m s l l.length).2.1 0) pk.len
        have f2 := fOdd2 (most := IntKind.i64.wrap (n * y)) (ds := dst x (psL m s l)) (p := FleetPeaks.mk (psL m s l) (RS m s l l.length).2.1 0) (by rw [hdl]; exact pk.len) (by rw [hdl]; exact hw)
        have f3 := rOdd2 (most := IntKind.i64.wrap (n * y)) (l := psL m s l) (ds := dst x (psL m s l)) (who := (RS m s l l.length).2.1) pk.len hdl hw
        simp only [] at f1 f2
        have a1 := pk.len
        rw [a0]
        simp only [zL]
        rw [x1, zL, x2, zL, f1, zL, rOdd1 pk.len, zL, y1, zL, y2, zL, f2, zL, f3, zL]
        exact ⟨_, rfl, rfl, Nat.le_trans (og_len _ _ _ _) (by rw [hdl]; exact a1)⟩
      · exact ⟨_, rfl, rfl, by simp⟩
    · rw [if_neg e2, if_neg e2, decide_eq_true e2]
      exact ⟨_, rfl, rfl, by simp⟩
  · have ep : poE m s l c cm = pfE c cm s := by unfold poE; rw [if_pos e1]
    rw [ep, decide_eq_true e1]
    exact ⟨([], pfE c cm s), by rw [if_neg e1]; rfl, rfl, by simp⟩
/-- The law. -/
theorem law_Apart (a b : List Flight) (m : Mask) (s : Str) (n : Int) (ha : okL okFlight a) (hb : okL okFlight b) (hm : okMask m) (hs : okS s) (_ : i64 n) : F_law9_FleetApartMatchesSpec a b m s n = some true := by
  obtain ⟨ca, hca⟩ := lfF_some a
  obtain ⟨cb, hcb⟩ := lfF_some b
  obtain ⟨cm, hcm⟩ := mskE_some m
  obtain ⟨⟨o, e⟩, o1, o2, o3⟩ := Odd_eq (n := n) ha hm hs
  obtain ⟨t, ht⟩ := ints_ex o e o3
  unfold F_law9_FleetApartMatchesSpec
  have hsw := apO_swap (m := m) (s := s) (a := a) (b := b) (ca := ca) (cb := cb) (cm := cm)
  rw [fApart_eq ha hb hm hs hca hcb hcm, rApart_eq ha hb hm hs hca hcb hcm, fApart_eq hb ha hm hs hcb hca hcm]
  revert hsw
  obtain ⟨p1, p2⟩ := apO m s a b ca cb cm
  obtain ⟨q1, q2⟩ := apO m s b a cb ca cm
  intro hsw
  simp only [yE, decide_true, Bool.not_true, yS, ne_eq, not_true, decide_false, zL, joinO_eq, o1, o2, ht, totals_ok, yP]
  by_cases c : p2 = 0
  · obtain ⟨s1, s2, s3, s4, s5⟩ := hsw c
    rw [decide_eq_true c, yP, show q2 = 0 from s1, show q1.Num = -p1.Num from s2, show q1.Den = p1.Den from s3, Go.OB.wrap_i64 (by have : -4611686018427387904 ≤ p1.Num := s4; have : p1.Num ≤ 4611686018427387904 := s5; omega) (by have : -4611686018427387904 ≤ p1.Num := s4; omega)]
    simp [yS, zL]
  · rw [decide_eq_false c, yS]
end Go.Lf
