/- Walks: what each function computes, for every argument; no condition but those that stand in the statements. -/
import Derived.Test.YtnajnkghilemhaaGreatDoorVNa
import Derived.Test.YtnajnkghilemhaaGreatDoorOpx
namespace Go.Lf
section
variable {β : Type}
theorem bs_loop {body : (Int × Int → Option β) → Int × Int → Option β} (K n : Nat) (r : Option β)
    (hs : ∀ k (lo hi : Nat), lo < hi → hi ≤ n → lo ≤ K → K ≤ hi → body k ((lo : Int), (hi : Int)) = if (lo + hi) / 2 < K then k (((lo + hi) / 2 + 1 : Nat), (hi : Int)) else k ((lo : Int), ((lo + hi) / 2 : Nat)))
    (he : ∀ k, body k ((K : Int), (K : Int)) = r) : ∀ (m lo hi fu : Nat), hi - lo ≤ m → lo ≤ K → K ≤ hi → hi ≤ n → m < fu → loopN body fu ((lo : Int), (hi : Int)) = r := by
  intro m
  induction m with
  | zero =>
    intro lo hi fu h1 h2 h3 h4 h5
    obtain ⟨f, rfl⟩ : ∃ f, fu = f + 1 := ⟨fu - 1, by omega⟩
    have e1 : lo = K := by omega
    have e2 : hi = K := by omega
    subst e1; subst e2
    exact he _
  | succ m ih =>
    intro lo hi fu h1 h2 h3 h4 h5
    obtain ⟨f, rfl⟩ : ∃ f, fu = f + 1 := ⟨fu - 1, by omega⟩
    by_cases h : lo < hi
    · show body (loopN body f) _ = r
      rw [hs _ lo hi h h4 h2 h3]
      by_cases hc : (lo + hi) / 2 < K
      · rw [if_pos hc]; exact ih _ _ f (by omega) (by omega) h3 h4 (by omega)
      · rw [if_neg hc]; exact ih _ _ f (by omega) h2 (by omega) (by omega) (by omega)
    · have e1 : lo = K := by omega
      have e2 : hi = K := by omega
      subst e1; subst e2
      exact he _
end
/-- How many elements from the first one on fulfil p. -/
def cnt {α : Type} (p : α → Bool) (l : List α) : Nat := (l.takeWhile p).length
theorem cnt_le {α : Type} (p : α → Bool) : ∀ l : List α, cnt p l ≤ l.length
  | [] => Nat.le_refl _
  | x :: l => by
    unfold cnt
    rw [List.takeWhile_cons]
    cases p x
    · exact Nat.zero_le _
    · exact Nat.succ_le_succ (cnt_le p l)
theorem cnt_lt {α : Type} (p : α → Bool) : ∀ (l : List α) (_ : ∀ (i j : Nat) x y, l[i]? = some x → l[j]? = some y → i < j → p y = true → p x = true) (i : Nat) (x : α), l[i]? = some x → (p x = true ↔ i < cnt p l)
  | [], _, i, x, hx => by simp at hx
  | a :: l, hm, i, x, hx => by
    have ih := cnt_lt p l (fun i j x y h1 h2 h3 h4 => hm (i + 1) (j + 1) x y (by simpa using h1) (by simpa using h2) (by omega) h4)
    unfold cnt
    rw [List.takeWhile_cons]
    cases hp : p a with
    | false =>
      constructor
      · intro h
        cases i with
        | zero => simp at hx; subst hx; rw [hp] at h; cases h
        | succ i => have := hm 0 (i + 1) a x rfl hx (by omega) h; rw [hp] at this; cases this
      · intro h; simp at h
    | true =>
      cases i with
      | zero => simp at hx; subst hx; simp [hp]
      | succ i =>
        rw [if_pos rfl, List.length_cons, Nat.add_lt_add_iff_right]
        exact ih i x (by simpa using hx)
/-- Samples whose times ascend. -/
def Asc (l : List Sample) : Prop := ∀ (i j : Nat) x y, l[i]? = some x → l[j]? = some y → i < j → x.At < y.At
theorem asc_of {s : Series} (h : serC s = 0) : Asc s.Samples ∧ s.Samples.length ≤ 20000 ∧ ∀ (i : Nat) (x : Sample), s.Samples[i]? = some x → 0 ≤ x.At ∧ x.At ≤ 1099511627776 := by
  obtain ⟨-, hl, hx⟩ := (ser_iff s).1 h
  have step : ∀ i x y, s.Samples[i]? = some x → s.Samples[i + 1]? = some y → x.At < y.At := by
    intro i x y h1 h2
    have q := hx (i + 1) y h2
    unfold smpE at q
    split at q
    · exact absurd q (by decide)
    · split at q
      · exact absurd q (by decide)
      · simp only [h1] at q
        by_cases c : y.At ≤ x.At
        · simp [c] at q
        · omega
  refine ⟨?_, hl, fun i x h1 => ?_⟩
  · intro i j x y h1 h2 hij
    obtain ⟨d, rfl⟩ : ∃ d, j = i + 1 + d := ⟨j - (i + 1), by omega⟩
    clear hij
    induction d generalizing y with
    | zero => exact step i x y h1 h2
    | succ d ih =>
      have hlt := (List.getElem?_eq_some_iff.1 h2).1
      obtain ⟨z, hz⟩ : ∃ z, s.Samples[i + 1 + d]? = some z := ⟨_, List.getElem?_eq_getElem (by omega)⟩
      have := ih z hz
      have := step (i + 1 + d) z y hz h2
      omega
  · have q := hx i x h1
    unfold smpE at q
    split at q
    · exact absurd q (by decide)
    · rename_i c
      simp only [Bool.or_eq_true, Bool.not_eq_true', Bool.and_eq_false_iff, decide_eq_false_iff_not, not_or, Decidable.not_not, not_and] at c
      by_cases c1 : 0 ≤ x.At
      · by_cases c2 : x.At ≤ 1099511627776
        · exact ⟨c1, c2⟩
        · simp [c2] at c
      · simp [c1] at c
/-- How many samples are earlier than a time; not later. -/
def kLt (l : List Sample) (t : Int) : Nat := cnt (fun x => decide (x.At < t)) l
def kLe (l : List Sample) (t : Int) : Nat := cnt (fun x => decide (x.At ≤ t)) l
theorem kLt_iff {l : List Sample} (ha : Asc l) (t : Int) {i : Nat} {x : Sample} (hx : l[i]? = some x) : x.At < t ↔ i < kLt l t := by
  have := cnt_lt (fun x : Sample => decide (x.At < t)) l (fun i j x y h1 h2 h3 h4 => by have := ha i j x y h1 h2 h3; simp only [decide_eq_true_eq] at *; omega) i x hx
  unfold kLt; simpa using this
theorem kLe_iff {l : List Sample} (ha : Asc l) (t : Int) {i : Nat} {x : Sample} (hx : l[i]? = some x) : x.At ≤ t ↔ i < kLe l t := by
  have := cnt_lt (fun x : Sample => decide (x.At ≤ t)) l (fun i j x y h1 h2 h3 h4 => by have := ha i j x y h1 h2 h3; simp only [decide_eq_true_eq] at *; omega) i x hx
  unfold kLe; simpa using this
theorem mid_ok {l : List Sample} {lo hi : Nat} (h : lo < hi) (hh : hi ≤ l.length) : ∃ x, l[(lo + hi) / 2]? = some x := ⟨_, List.getElem?_eq_getElem (by omega)⟩
theorem bsearch_eq (l : List Sample) (t : Int) (ha : Asc l) (hl : l.length ≤ 20000) (hr : ∀ (i : Nat) (x : Sample), l[i]? = some x → 0 ≤ x.At ∧ x.At ≤ 1099511627776) (ht : 0 ≤ t ∧ t ≤ 1099511627776) :
    F_slices_BinarySearchFunc___api_Sample_api_Sample_int__series_latest_1_L1 l t (0, (l.length : Int)) = some (kLt l t : Int) := by
  unfold F_slices_BinarySearchFunc___api_Sample_api_Sample_int__series_latest_1_L1 loopO
  refine bs_loop (kLt l t) l.length _ ?_ ?_ l.length 0 l.length FU (by omega) (Nat.zero_le _) (cnt_le _ _) (Nat.le_refl _) (FU_big (by omega))
  · intro k lo hi h1 h2 h3 h4
    obtain ⟨x, hx⟩ := mid_ok h1 h2
    have e1 : IntKind.i64.wrap ((lo : Int) + (hi : Int)) = ((lo + hi : Nat) : Int) := by rw [Go.OB.wrap_i64 (by omega) (by omega)]; omega
    have e2 : IntKind.u64.wrap ((lo + hi : Nat) : Int) = ((lo + hi : Nat) : Int) := by rw [IntKind.wrap_u64]; omega
    have e3 : shr' .u64 ((lo + hi : Nat) : Int) 1 = some (((lo + hi) / 2 : Nat) : Int) := by
      unfold shr'
      rw [if_pos (by decide)]
      congr 1
    have e4 : IntKind.i64.wrap (((lo + hi) / 2 : Nat) : Int) = (((lo + hi) / 2 : Nat) : Int) := by rw [Go.OB.wrap_i64 (by omega) (by omega)]
    have e5 : IntKind.i64.wrap ((((lo + hi) / 2 : Nat) : Int) + 1) = (((lo + hi) / 2 + 1 : Nat) : Int) := wrap1 (n := 20000) (by omega) (by omega)
    have hb := hr _ _ hx
    have e6 : F_series_latest_1 x t = some (x.At - t) := by
      unfold F_series_latest_1
      rw [xB, Go.OB.wrap_i64 (by omega) (by omega)]
    simp only [xB, decide_eq_true (show (lo : Int) < (hi : Int) by omega), iteB_tr, e1, e2, e3, yR, e4, at_nat, hx, e6, e5, iteB_dec]
    have q := kLt_iff ha t hx
    by_cases c : (lo + hi) / 2 < kLt l t
    · rw [if_pos c, if_pos (by have := q.2 c; omega)]
    · rw [if_neg c, if_neg (by intro h; exact c (q.1 (by omega)))]
  · intro k
    simp only [xB, decide_eq_false (show ¬ ((kLt l t : Int) < (kLt l t : Int)) by omega), iteB_fa]
theorem rsearch_eq (s : Series) (t : Int) (ha : Asc s.Samples) (hl : s.Samples.length ≤ 20000) :
    F_ref5_Held_L1 s t (0, (s.Samples.length : Int)) = some (kLe s.Samples t : Int) := by
  unfold F_ref5_Held_L1 loopO
  refine bs_loop (kLe s.Samples t) s.Samples.length _ ?_ ?_ s.Samples.length 0 s.Samples.length FU (by omega) (Nat.zero_le _) (cnt_le _ _) (Nat.le_refl _) (FU_big (by omega))
  · intro k lo hi h1 h2 h3 h4
    obtain ⟨x, hx⟩ := mid_ok h1 h2
    have e1 : IntKind.i64.wrap ((lo : Int) + (hi : Int)) = ((lo + hi : Nat) : Int) := by rw [Go.OB.wrap_i64 (by omega) (by omega)]; omega
    have e3 : quo' .i64 ((lo + hi : Nat) : Int) 2 = some (((lo + hi) / 2 : Nat) : Int) := by
      unfold quo'
      rw [if_neg (by omega), Int.tdiv_eq_ediv_of_nonneg (by omega), Go.OB.wrap_i64 (by omega) (by omega)]
      congr 1
    have e5 : IntKind.i64.wrap ((((lo + hi) / 2 : Nat) : Int) + 1) = (((lo + hi) / 2 + 1 : Nat) : Int) := wrap1 (n := 20000) (by omega) (by omega)
    simp only [xB, decide_eq_true (show (lo : Int) < (hi : Int) by omega), iteB_tr, e1, e3, yR, at_nat, hx, e5, iteB_dec]
    have q := kLe_iff ha t hx
    by_cases c : (lo + hi) / 2 < kLe s.Samples t
    · rw [if_pos c, if_pos (q.2 c)]
    · rw [if_neg c, if_neg (fun h => c (q.1 h))]
  · intro k
    simp only [xB, decide_eq_false (show ¬ ((kLe s.Samples t : Int) < (kLe s.Samples t : Int)) by omega), iteB_fa]
theorem latest_eq (s : Series) (t : Int) (ha : Asc s.Samples) (hl : s.Samples.length ≤ 20000) (hr : ∀ (i : Nat) (x : Sample), s.Samples[i]? = some x → 0 ≤ x.At ∧ x.At ≤ 1099511627776) (ht : 0 ≤ t ∧ t ≤ 1099511627776) :
    F_series_latest s t = some ((kLe s.Samples t : Int) - 1) := by
  unfold F_series_latest F_slices_BinarySearchFunc___api_Sample_api_Sample_int__series_latest_1
  simp only [xB, bsearch_eq s.Samples t ha hl hr ht, yR]
  have hc1 := cnt_le (fun x : Sample => decide (x.At < t)) s.Samples
  have hc2 := cnt_le (fun x : Sample => decide (x.At ≤ t)) s.Samples
  change kLt s.Samples t ≤ _ at hc1
  change kLe s.Samples t ≤ _ at hc2
  have hw : ∀ n : Nat, n ≤ 20000 → IntKind.i64.wrap ((n : Int) - 1) = (n : Int) - 1 := fun n hn => Go.OB.wrap_i64 (by omega) (by omega)
  by_cases c : kLt s.Samples t < s.Samples.length
  · obtain ⟨x, hx⟩ : ∃ x, s.Samples[kLt s.Samples t]? = some x := ⟨_, List.getElem?_eq_getElem c⟩
    have hb := hr _ _ hx
    have q1 := kLt_iff ha t hx
    have q2 := kLe_iff ha t hx
    have e6 : F_series_latest_1 x t = some (x.At - t) := by
      unfold F_series_latest_1
      rw [xB, Go.OB.wrap_i64 (by omega) (by omega)]
    simp only [decide_eq_true (show (kLt s.Samples t : Int) < (s.Samples.length : Int) by omega), iteB_tr, at_nat, hx, yR, e6]
    have nle : ∀ j y, s.Samples[j]? = some y → kLt s.Samples t < j → ¬ y.At ≤ t := by
      intro j y hy hj h
      have := ha _ _ _ _ hx hy hj
      have := q1
      omega
    by_cases e : x.At - t = 0
    · have hk : kLe s.Samples t = kLt s.Samples t + 1 := by
        have h1 := q2.1 (by omega)
        by_cases h2 : kLt s.Samples t + 1 < kLe s.Samples t
        · obtain ⟨y, hy⟩ : ∃ y, s.Samples[kLt s.Samples t + 1]? = some y := ⟨_, List.getElem?_eq_getElem (by omega)⟩
          exact absurd ((kLe_iff ha t hy).2 h2) (nle _ _ hy (by omega))
        · omega
      simp only [decide_eq_true e, iteB_tr]
      rw [hk]; congr 1; omega
    · have hk : kLe s.Samples t = kLt s.Samples t := by
        have h1 : ¬ kLt s.Samples t < kLe s.Samples t := fun h => by have := q2.2 h; have : ¬ x.At < t := fun h => by have := q1.1 h; omega
                                                                     omega
        by_cases h2 : kLe s.Samples t < kLt s.Samples t
        · obtain ⟨y, hy⟩ : ∃ y, s.Samples[kLe s.Samples t]? = some y := ⟨_, List.getElem?_eq_getElem (by omega)⟩
          have := (kLt_iff ha t hy).2 h2
          have := (kLe_iff ha t hy).1 (by omega)
          omega
        · omega
      simp only [decide_eq_false e, iteB_fa]
      rw [hk, hw _ (by omega)]
  · simp only [decide_eq_false (show ¬ (kLt s.Samples t : Int) < (s.Samples.length : Int) by omega), iteB_fa, yR]
    have hk : kLe s.Samples t = kLt s.Samples t := by
      by_cases h2 : kLe s.Samples t < kLt s.Samples t
      · obtain ⟨y, hy⟩ : ∃ y, s.Samples[kLe s.Samples t]? = some y := ⟨_, List.getElem?_eq_getElem (by omega)⟩
        have := (kLt_iff ha t hy).2 h2
        have := (kLe_iff ha t hy).1 (by omega)
        omega
      · omega
    rw [hk, hw _ (by omega)]
/-- The sample that is held. -/
def hld (s : Series) (t g : Int) : Sample × Bool :=
  match kLe s.Samples t with
  | 0 => (Sample.mk 0 0 0, false)
  | n + 1 => match s.Samples[n]? with
    | some x => if (!decide (3 ≤ x.Mark)) || decide (g < IntKind.i64.wrap (t - x.At)) then (Sample.mk 0 0 0, false) else (x, true)
    | none => (Sample.mk 0 0 0, false)
theorem Held_eq (s : Series) (t g : Int) (ha : Asc s.Samples) (hl : s.Samples.length ≤ 20000) (hr : ∀ (i : Nat) (x : Sample), s.Samples[i]? = some x → 0 ≤ x.At ∧ x.At ≤ 1099511627776) (ht : 0 ≤ t ∧ t ≤ 1099511627776) :
    F_series_Held s t g = some (hld s t g) := by
  unfold F_series_Held F_series_hold hld
  have hc := cnt_le (fun x : Sample => decide (x.At ≤ t)) s.Samples
  change kLe s.Samples t ≤ _ at hc
  rw [latest_eq s t ha hl hr ht]
  generalize kLe s.Samples t = n at *
  cases n with
  | zero => rfl
  | succ n =>
    obtain ⟨x, hx⟩ : ∃ x, s.Samples[n]? = some x := ⟨_, List.getElem?_eq_getElem (by omega)⟩
    have e : (((n + 1 : Nat) : Int) - 1) = (n : Int) := by omega
    simp only [yR, xB, e, decide_eq_false (show ¬ ((n : Int) < 0) by omega), iteB_fa, at_nat, hx, F_series_solid]
    generalize decide (3 ≤ x.Mark) = a
    generalize decide (g < IntKind.i64.wrap (t - x.At)) = b
    cases a <;> cases b <;> rfl
theorem rHeld_eq (s : Series) (t g : Int) (ha : Asc s.Samples) (hl : s.Samples.length ≤ 20000) : F_ref5_Held s t g = some (hld s t g) := by
  unfold F_ref5_Held hld
  have hc := cnt_le (fun x : Sample => decide (x.At ≤ t)) s.Samples
  change kLe s.Samples t ≤ _ at hc
  simp only [xB, rsearch_eq s t ha hl, yR]
  generalize kLe s.Samples t = n at *
  cases n with
  | zero => rfl
  | succ n =>
    obtain ⟨x, hx⟩ : ∃ x, s.Samples[n]? = some x := ⟨_, List.getElem?_eq_getElem (by omega)⟩
    have e : IntKind.i64.wrap (((n + 1 : Nat) : Int) - 1) = (n : Int) := by rw [Go.OB.wrap_i64 (by omega) (by omega)]; omega
    simp only [decide_eq_false (show ¬ (((n + 1 : Nat) : Int) = 0) by omega), iteB_fa, e, at_nat, hx, yR, F_ref5_solid, xB]
    generalize decide (3 ≤ x.Mark) = a
    generalize decide (g < IntKind.i64.wrap (t - x.At)) = b
    cases a <;> cases b <;> rfl
end Go.Lf
namespace Go.Lf
section
variable {α β γ σ : Type}
theorem loopN_inv {body : (γ → Option β) → γ → Option β} (enc : Nat → σ → γ) (l : List α) (I : Nat → σ → Prop) (R : β → Prop)
    (h : ∀ k i s x, l[i]? = some x → i < l.length → I i s → ∃ s', I (i + 1) s' ∧ body k (enc i s) = k (enc (i + 1) s')) (hx : ∀ k s, I l.length s → ∃ r, body k (enc l.length s) = some r ∧ R r) :
    ∀ (d i : Nat) (s : σ) (n : Nat), i + d = l.length → d < n → I i s → ∃ r, loopN body n (enc i s) = some r ∧ R r
  | 0, i, s, n, hd, hn, hI => by
    obtain ⟨m, rfl⟩ : ∃ m, n = m + 1 := ⟨n - 1, by omega⟩
    obtain rfl : i = l.length := by omega
    rw [loopN]; exact hx _ s hI
  | d + 1, i, s, n, hd, hn, hI => by
    obtain ⟨m, rfl⟩ : ∃ m, n = m + 1 := ⟨n - 1, by omega⟩
    have hi : i < l.length := by omega
    obtain ⟨s', h1, h2⟩ := h (loopN body m) i s l[i] (List.getElem?_eq_getElem hi) hi hI
    rw [loopN, h2]
    exact loopN_inv enc l I R h hx d (i + 1) s' m (by omega) (by omega) h1
/-- A loop that keeps an invariant. -/
theorem loopO_inv {body : (γ → Option β) → γ → Option β} (enc : Nat → σ → γ) (l : List α) (I : Nat → σ → Prop) (R : β → Prop) (hl : l.length ≤ 9223372036854775807)
    (h : ∀ k i s x, l[i]? = some x → i < l.length → I i s → ∃ s', I (i + 1) s' ∧ body k (enc i s) = k (enc (i + 1) s')) (hx : ∀ k s, I l.length s → ∃ r, body k (enc l.length s) = some r ∧ R r) (s : σ) (h0 : I 0 s) :
    ∃ r, loopO body (enc 0 s) = some r ∧ R r := loopN_inv enc l I R h hx l.length 0 s FU (by omega) (FU_big hl) h0
end
theorem app1 (p q : List Int) (h : p.length + q.length ≤ 140737488355328) : app' 1 p q = some (p ++ q) := by
  unfold app'
  rw [if_pos ⟨by rw [Go.OB.maxLen_eq]; omega, by omega⟩]
theorem AppendUint_ex (p : List Int) (n : Int) (hn : 0 ≤ n ∧ n ≤ 18446744073709551615) (h : p.length + 20 ≤ 140737488355328) : ∃ q, X_AppendUint p n 10 = some q ∧ q.length ≤ p.length + 20 := by
  unfold X_AppendUint
  rw [if_pos ⟨rfl, hn.1, hn.2, h⟩]
  refine ⟨_, rfl, ?_⟩
  rw [List.length_append, nums_len, Lib.decDigits_length]
  have := Lib.nDigits_le20 n.toNat (by omega)
  omega
theorem u64_rng (n : Int) : 0 ≤ IntKind.u64.wrap n ∧ IntKind.u64.wrap n ≤ 18446744073709551615 := by
  rw [IntKind.wrap_u64]; omega
theorem AppendInt_ex (p : List Int) (n : Int) (h : p.length + 21 ≤ 140737488355328) : ∃ q, F_strconv_AppendInt p n 10 = some q ∧ q.length ≤ p.length + 21 := by
  have e : ∃ q, F_internal_strconv_AppendInt p n 10 = some q ∧ q.length ≤ p.length + 21 := by
    unfold F_internal_strconv_AppendInt
    simp only [xB, iteB_dec]
    by_cases c : n < 0
    · have ha := app1 p [45] (by simp; omega)
      rw [if_pos c, ha, yR, yR]
      obtain ⟨q, h1, h2⟩ := AppendUint_ex (p ++ [45]) (IntKind.u64.wrap (-IntKind.u64.wrap n)) (u64_rng _) (by simp; omega)
      simp only []
      rw [h1, yR]
      exact ⟨q, rfl, by simp at h2; omega⟩
    · rw [if_neg c, yR]
      obtain ⟨q, h1, h2⟩ := AppendUint_ex p (IntKind.u64.wrap n) (u64_rng _) (by omega)
      simp only []
      rw [h1, yR]
      exact ⟨q, rfl, by omega⟩
  obtain ⟨q, h1, h2⟩ := e
  unfold F_strconv_AppendInt
  rw [h1, yR]
  exact ⟨q, rfl, h2⟩
/-- An ink's text is at most so long. -/
def Gr (r : Option Orangeboxref0Ink) (n : Nat) : Prop := ∃ q, r = some q ∧ q.out.length ≤ n
theorem Gr.bind {a : Option Orangeboxref0Ink} {k : Orangeboxref0Ink → Option Orangeboxref0Ink} {n m : Nat} (h : Gr a n) (hk : ∀ q, q.out.length ≤ n → Gr (k q) m) : Gr (bindO a k) m := by
  obtain ⟨q, h1, h2⟩ := h
  rw [h1, yR]; exact hk q h2
theorem Gr.some {q : Orangeboxref0Ink} {n : Nat} (h : q.out.length ≤ n) : Gr (Option.some q) n := ⟨q, rfl, h⟩
theorem ink_Int (p : Orangeboxref0Ink) (n : Int) {b : Nat} (hp : p.out.length ≤ b) (h : b ≤ 100000000000000) : Gr (F_ref0_Ink_Int p n) (b + 22) := by
  obtain ⟨q, h1, h2⟩ := AppendInt_ex p.out n (by omega)
  unfold F_ref0_Ink_Int
  rw [h1, yR]
  simp only [xB]
  rw [app1 q [32] (by simp; omega), yR]
  exact Gr.some (by simp; omega)
theorem AppendBool_ex (p : List Int) (x : Bool) (h : p.length + 5 ≤ 140737488355328) : ∃ q, F_strconv_AppendBool p x = some q ∧ q.length ≤ p.length + 5 := by
  unfold F_strconv_AppendBool F_internal_strconv_AppendBool
  cases x with
  | true => rw [iteB_tr, app1 p _ (by simp [nums]; omega), yR, yR]; exact ⟨_, rfl, by simp [nums]⟩
  | false => rw [iteB_fa, app1 p _ (by simp [nums]; omega), yR, yR]; exact ⟨_, rfl, by simp [nums]⟩
theorem ink_Bool (p : Orangeboxref0Ink) (x : Bool) {b : Nat} (hp : p.out.length ≤ b) (h : b ≤ 100000000000000) : Gr (F_ref0_Ink_Bool p x) (b + 5) := by
  obtain ⟨q, h1, h2⟩ := AppendBool_ex p.out x (by omega)
  unfold F_ref0_Ink_Bool
  rw [h1, yR]
  exact Gr.some (by simp; omega)
theorem ink_Inputs (p : Orangeboxref0Ink) (l : List ToldT) {b : Nat} (hp : p.out.length ≤ b) (h : b + 22 + 27 * l.length ≤ 100000000000000) : Gr (F_ref0_Ink_Inputs p l) (b + 22 + 27 * l.length) := by
  unfold F_ref0_Ink_Inputs
  simp only [xB]
  refine (ink_Int p _ hp (by omega)).bind fun q hq => ?_
  unfold F_ref0_Ink_Inputs_L1
  refine loopO_inv (fun (i : Nat) (s : List Int) => ((i : Int), s)) l (fun i s => s.length ≤ b + 22 + 27 * i) (fun (r : Orangeboxref0Ink) => r.out.length ≤ b + 22 + 27 * l.length) (by omega) ?_ ?_ _ (by simpa using hq)
  · intro kk i s x hx hi hI
    obtain ⟨r, h1, h2⟩ := ink_Int (Orangeboxref0Ink.mk s) x.N hI (by omega)
    obtain ⟨r', h3, h4⟩ := ink_Bool r x.Known h2 (by omega)
    refine ⟨r'.out, by omega, ?_⟩
    simp only [xB]
    rw [lt_true hi, iteB_tr, at_ok hx, yR, h1, yR, yR, h3, yR, wrap1 hi (by omega)]
  · intro kk s hI
    simp only [xB]
    rw [lt_self, iteB_fa]
    exact ⟨_, rfl, hI⟩
theorem inputs_told (l : List ToldT) (e : Int) (h : l.length ≤ 1000000) : ∃ r, F_law6_inputs l e = some r := by
  unfold F_law6_inputs
  obtain ⟨q, h1, h2⟩ := ink_Inputs (Orangeboxref0Ink.mk []) l (b := 0) (by simp) (by omega)
  obtain ⟨r, h3, h4⟩ := ink_Int q e h2 (by omega)
  rw [h1, yR]
  unfold F_ref0_Ink_Errno F_ref0_Ink_Told
  rw [h3]
  exact ⟨_, rfl⟩
end Go.Lf
namespace Go.Lf
open Go.RowKit Go.OB
/-- What a track is in a frame. -/
def inT (n : Int) (t : Track) : ToldT := ToldT.mk (hld t.Series (64 * n + 63) t.Long).1.N (hld t.Series (64 * n + 63) t.Long).2
theorem app16 (p : List ToldT) (x : ToldT) (h : p.length ≤ 1000) : app' 16 p [x] = some (p ++ [x]) := by
  unfold app'
  rw [if_pos ⟨by rw [Go.OB.maxLen_eq]; simp; omega, by simp; omega⟩]
theorem time_eq {n : Int} (h0 : 0 ≤ n) (h1 : n ≤ 4194303) : IntKind.i64.wrap (IntKind.i64.wrap (IntKind.i64.wrap (64 * n) + 64) - 1) = 64 * n + 63 := by
  rw [Go.OB.wrap_i64 (n := 64 * n) (by omega) (by omega), Go.OB.wrap_i64 (n := 64 * n + 64) (by omega) (by omega), Go.OB.wrap_i64 (by omega) (by omega)]
  omega
theorem good_trk {l : List Track} (h : trkC l = 0) : l.length ≤ 50 ∧ ∀ (i : Nat) (x : Track), l[i]? = some x → Asc x.Series.Samples ∧ x.Series.Samples.length ≤ 20000 ∧ ∀ (j : Nat) (y : Sample), x.Series.Samples[j]? = some y → 0 ≤ y.At ∧ y.At ≤ 1099511627776 := by
  obtain ⟨h1, h2⟩ := (trk_iff l).1 h
  exact ⟨h1, fun i x hx => asc_of ((trkE_iff l i x).1 (h2 i x hx)).2.2.1⟩
theorem take_snoc {α : Type} {l : List α} {i : Nat} {x : α} (hx : l[i]? = some x) : l.take (i + 1) = l.take i ++ [x] := by
  rw [List.take_add_one, hx]; rfl
theorem inputs_eq (l : List Track) (n : Int) (h : trkC l = 0) (h0 : 0 ≤ n) (h1 : n ≤ 4194303) : F_event_inputs l n = some (l.map (inT n)) := by
  obtain ⟨hl, hg⟩ := good_trk h
  unfold F_event_inputs F_event_inputs_L1
  simp only [xB]
  rw [show (([] : List ToldT), (0 : Int)) = (fun (i : Nat) => ((l.take i).map (inT n), (i : Int))) 0 by simp]
  rw [loopO_at (fun (i : Nat) => ((l.take i).map (inT n), (i : Int))) l (some (l.map (inT n))) (by omega) ?_ ?_]
  · rfl
  · intro k i x hx hi
    obtain ⟨g1, g2, g3⟩ := hg i x hx
    simp only [time_eq h0 h1]
    rw [lt_true hi, iteB_tr, at_ok hx, yR, Held_eq _ _ _ g1 g2 g3 (by omega), yR]
    rw [app16 _ _ (by simp; omega), yR, wrap1 hi (by omega), take_snoc hx, List.map_append]
    rfl
  · intro k
    rw [lt_self, iteB_fa, List.take_length]
theorem rinputs_eq (l : List Track) (n : Int) (h : trkC l = 0) (h0 : 0 ≤ n) (h1 : n ≤ 4194303) : F_ref6_inputs l n = some (l.map (inT n)) := by
  obtain ⟨hl, hg⟩ := good_trk h
  unfold F_ref6_inputs F_ref6_inputs_L1
  simp only [xB]
  rw [show (([] : List ToldT), (0 : Int)) = (fun (i : Nat) => ((l.take i).map (inT n), (i : Int))) 0 by simp]
  rw [loopO_at (fun (i : Nat) => ((l.take i).map (inT n), (i : Int))) l (some (l.map (inT n))) (by omega) ?_ ?_]
  · rfl
  · intro k i x hx hi
    obtain ⟨g1, g2, g3⟩ := hg i x hx
    simp only [time_eq h0 h1]
    rw [lt_true hi, iteB_tr, at_ok hx, yR, yR, rHeld_eq _ _ _ g1 g2, yR]
    rw [app16 _ _ (by simp; omega), yR, wrap1 hi (by omega), take_snoc hx, List.map_append]
    rfl
  · intro k
    rw [lt_self, iteB_fa, List.take_length]
theorem Inputs_eq (l : List Track) (n : Int) (h : okL okTrack l) : ∃ x, F_event_Inputs l n = some x ∧ F_ref6_Inputs l n = some x ∧ x.1.length ≤ 50 := by
  unfold F_event_Inputs F_ref6_Inputs
  rw [CheckTracks_eq l h, rCheckTracks_eq l h, trkF_eq, yR, yR]
  simp only [xB, iteB_dec]
  by_cases c : trkC l = 0
  · rw [if_neg (by simpa using c), if_neg (by simpa using c), ewithin, out6, yR, yR]
    by_cases c1 : 0 ≤ n
    · by_cases c2 : n ≤ 4194303
      · have hl := (good_trk c).1
        simp only [decide_eq_true c1, decide_eq_true c2, Bool.and_self, Bool.not_true, iteB_fa, decide_eq_false (show ¬ n < 0 by omega), decide_eq_false (show ¬ 4194303 < n by omega), Bool.or_self]
        rw [inputs_eq l n c c1 c2, rinputs_eq l n c c1 c2]
        simp only [yR]
        exact ⟨_, rfl, rfl, by simpa using hl⟩
      · simp only [decide_eq_false c2, Bool.and_false, Bool.not_false, iteB_tr, decide_eq_true (show 4194303 < n by omega), Bool.or_true]
        exact ⟨_, rfl, rfl, by simp⟩
    · simp only [decide_eq_false c1, Bool.false_and, Bool.not_false, iteB_tr, decide_eq_true (show n < 0 by omega), Bool.true_or]
      exact ⟨_, rfl, rfl, by simp⟩
  · rw [if_pos (by simpa using c), if_pos (by simpa using c)]
    exact ⟨_, rfl, rfl, by simp⟩
set_option maxRecDepth 1000000 in
theorem reads_true : F_law6_reads = some true := by kernel_rfl
theorem law_Inputs (l : List Track) (n : Int) (h : okL okTrack l) (_ : i64 n) : F_law6_EventInputsMatchSpec l n = some true := by
  obtain ⟨x, h1, h2, h3⟩ := Inputs_eq l n h
  obtain ⟨r, hr⟩ := inputs_told x.1 x.2 (by omega)
  obtain ⟨c, hc⟩ := trkF_some l
  unfold F_law6_EventInputsMatchSpec
  rw [CheckTracks_eq l h, rCheckTracks_eq l h, hc, yR, yR]
  simp only [xB, decide_true, iteB_tr, h1, h2, yR, hr, reads_true]
end Go.Lf
