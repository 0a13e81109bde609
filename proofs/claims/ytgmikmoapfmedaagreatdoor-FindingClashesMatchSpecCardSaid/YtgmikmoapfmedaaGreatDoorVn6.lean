/- The sample that is held: both programs find the same one. -/
import Derived.Test.YtgmikmoapfmedaaGreatDoorVn5
import Derived.Test.YtgmikmoapfmedaaGreatDoorLfQ
namespace Go.Lf
section
variable {β:Type}
theorem aEq {body : (Int × Int → Option β) → Int × Int → Option β} (K n : Nat) (r : Option β)
    (hs : ∀ k (lo hi : Nat), lo < hi → hi ≤ n → lo ≤ K → K ≤ hi → body k ((lo : Int), (hi : Int)) = if (lo + hi) / 2 < K then k (((lo + hi) / 2 + 1 : Nat), (hi : Int)) else k ((lo : Int), ((lo + hi) / 2 : Nat)))
    (he : ∀ k, body k ((K : Int), (K : Int)) = r) : ∀ (m lo hi fu : Nat), hi - lo ≤ m → lo ≤ K → K ≤ hi → hi ≤ n → m < fu → fJ body fu ((lo : Int), (hi : Int)) = r := by
  intro m
  induction m with
  | zero =>
    intro lo hi fu h1 h2 h3 h4 h5
    obtain ⟨f, rfl⟩ : ∃ f, fu = f + 1 := ⟨fu - 1, by omega⟩
    have e1 : lo = K := by omega
    have e2 : hi = K := by omega
    subst e1; subst e2
    exact he _
  | succ m ih =>
    intro lo hi fu h1 h2 h3 h4 h5
    obtain ⟨f, rfl⟩ : ∃ f, fu = f + 1 := ⟨fu - 1, by omega⟩
    by_cases h : lo < hi
    · show body (fJ body f) _ = r
      rw [hs _ lo hi h h4 h2 h3]
      by_cases hc : (lo + hi) / 2 < K
      · rw [if_pos hc]; exact ih _ _ f (by omega) (by omega) h3 h4 (by omega)
      · rw [if_neg hc]; exact ih _ _ f (by omega) h2 (by omega) (by omega) (by omega)
    · have e1 : lo = K := by omega
      have e2 : hi = K := by omega
      subst e1; subst e2
      exact he _
end
def cnt {α:Type}(p:α→Bool)(l:List α):Nat:=(l.takeWhile p).length
theorem cnt_le {α:Type}(p:α→Bool): ∀l:List α,cnt p l≤l.length
  | []=>Nat.le_refl _
  | x :: l=>by
    unfold cnt
    rw [List.takeWhile_cons]
    cases p x
    · exact Nat.zero_le _
    · exact Nat.succ_le_succ (cnt_le p l)
theorem cnt_lt {α : Type} (p : α → Bool) : ∀ (l : List α) (_ : ∀ (i j : Nat) x y, l[i]? = some x → l[j]? = some y → i < j → p y = true → p x = true) (i : Nat) (x : α), l[i]? = some x → (p x = true ↔ i < cnt p l)
  | [], _, i, x, hx => by simp at hx
  | a :: l, hm, i, x, hx => by
    have ih := cnt_lt p l (fun i j x y h1 h2 h3 h4 => hm (i + 1) (j + 1) x y (by simpa using h1) (by simpa using h2) (by omega) h4)
    unfold cnt
    rw [List.takeWhile_cons]
    cases hp : p a with
    | false =>
      constructor
      · intro h
        cases i with
        | zero => simp at hx; subst hx; rw [hp] at h; cases h
        | succ i => have := hm 0 (i + 1) a x rfl hx (by omega) h; rw [hp] at this; cases this
      · intro h; simp at h
    | true =>
      cases i with
      | zero => simp at hx; subst hx; simp [hp]
      | succ i =>
        rw [if_pos rfl, List.length_cons, Nat.add_lt_add_iff_right]
        exact ih i x (by simpa using hx)
def Asc (l:List fF):Prop:= ∀(i j:Nat) x y,l[i]? =some x→l[j]? =some y→i<j→x.At<y.At
theorem asc_of {s : Series} (h : qO s = 0) : Asc s.Samples ∧ s.Samples.length ≤ 20000 ∧ ∀ (i : Nat) (x : fF), s.Samples[i]? = some x → 0 ≤ x.At ∧ x.At ≤ 1099511627776 := by
  obtain ⟨-, hl, hx⟩ := (aDv s).1 h
  have step : ∀ i x y, s.Samples[i]? = some x → s.Samples[i + 1]? = some y → x.At < y.At := by
    intro i x y h1 h2
    have q := hx (i + 1) y h2
    unfold aAy at q
    split at q
    · exact absurd q (by decide)
    · split at q
      · exact absurd q (by decide)
      · simp only [h1] at q
        by_cases c : y.At ≤ x.At
        · simp [c] at q
        · omega
  refine ⟨?_, hl, fun i x h1 => ?_⟩
  · intro i j x y h1 h2 hij
    obtain ⟨d, rfl⟩ : ∃ d, j = i + 1 + d := ⟨j - (i + 1), by omega⟩
    clear hij
    induction d generalizing y with
    | zero => exact step i x y h1 h2
    | succ d ih =>
      have hlt := (List.getElem?_eq_some_iff.1 h2).1
      obtain ⟨z, hz⟩ : ∃ z, s.Samples[i + 1 + d]? = some z := ⟨_, List.getElem?_eq_getElem (by omega)⟩
      have := ih z hz
      have := step (i + 1 + d) z y hz h2
      omega
  · have q := hx i x h1
    unfold aAy at q
    split at q
    · exact absurd q (by decide)
    · rename_i c
      simp only [Bool.or_eq_true, Bool.not_eq_true', Bool.and_eq_false_iff, decide_eq_false_iff_not, not_or, Decidable.not_not, not_and] at c
      by_cases c1 : 0 ≤ x.At
      · by_cases c2 : x.At ≤ 1099511627776
        · exact ⟨c1, c2⟩
        · simp [c2] at c
      · simp [c1] at c
def kLt (l:List fF)(t:Int):Nat:=cnt (fun x=>decide (x.At<t)) l
def kLe (l:List fF)(t:Int):Nat:=cnt (fun x=>decide (x.At≤t)) l
theorem sS {l:List fF}(ha:Asc l)(t:Int){i:Nat}{x:fF}(hx:l[i]? =some x):x.At<t↔i<kLt l t:=by
  have:=cnt_lt (fun x:fF=>decide (x.At<t)) l (fun i j x y h1 h2 h3 h4=>by have:=ha i j x y h1 h2 h3; simp only [decide_eq_true_eq] at *; omega) i x hx
  unfold kLt; simpa using this
theorem qE {l:List fF}(ha:Asc l)(t:Int){i:Nat}{x:fF}(hx:l[i]? =some x):x.At≤t↔i<kLe l t:=by
  have:=cnt_lt (fun x:fF=>decide (x.At≤t)) l (fun i j x y h1 h2 h3 h4=>by have:=ha i j x y h1 h2 h3; simp only [decide_eq_true_eq] at *; omega) i x hx
  unfold kLe; simpa using this
theorem mid_ok {l:List fF}{lo hi:Nat}(h:lo<hi)(hh:hi≤l.length): ∃x,l[(lo+hi) / 2]? =some x:=⟨_,List.getElem?_eq_getElem (by omega)⟩
theorem bsearch_eq (l : List fF) (t : Int) (ha : Asc l) (hl : l.length ≤ 20000) (hr : ∀ (i : Nat) (x : fF), l[i]? = some x → 0 ≤ x.At ∧ x.At ≤ 1099511627776) (ht : 0 ≤ t ∧ t ≤ 1099511627776) :
    Fb2 l t (0, (l.length : Int)) = some (kLt l t : Int) := by
  unfold Fb2 fO
  refine aEq (kLt l t) l.length _ ?_ ?_ l.length 0 l.length FU (by omega) (Nat.zero_le _) (cnt_le _ _) (Nat.le_refl _) (aAv (by omega))
  · intro k lo hi h1 h2 h3 h4
    obtain ⟨x, hx⟩ := mid_ok h1 h2
    have e1 : IntKind.i64.wrap ((lo : Int) + (hi : Int)) = ((lo + hi : Nat) : Int) := by rw [Go.OB.wrap_i64 (by omega) (by omega)]; omega
    have e2 : IntKind.u64.wrap ((lo + hi : Nat) : Int) = ((lo + hi : Nat) : Int) := by rw [IntKind.wrap_u64]; omega
    have e3 : pV .u64 ((lo + hi : Nat) : Int) 1 = some (((lo + hi) / 2 : Nat) : Int) := by
      unfold pV
      rw [if_pos (by decide)]
      congr 1
    have e4 : IntKind.i64.wrap (((lo + hi) / 2 : Nat) : Int) = (((lo + hi) / 2 : Nat) : Int) := by rw [Go.OB.wrap_i64 (by omega) (by omega)]
    have e5 : IntKind.i64.wrap ((((lo + hi) / 2 : Nat) : Int) + 1) = (((lo + hi) / 2 + 1 : Nat) : Int) := aI (n := 20000) (by omega) (by omega)
    have hb := hr _ _ hx
    have e6 : Faj x t = some (x.At - t) := by
      unfold Faj
      rw [yF, Go.OB.wrap_i64 (by omega) (by omega)]
    simp only [yF, decide_eq_true (show (lo : Int) < (hi : Int) by omega), yY, e1, e2, e3, zN, e4, rP, hx, e6, e5, jF]
    have q := sS ha t hx
    by_cases c : (lo + hi) / 2 < kLt l t
    · rw [if_pos c, if_pos (by have := q.2 c; omega)]
    · rw [if_neg c, if_neg (by intro h; exact c (q.1 (by omega)))]
  · intro k
    simp only [yF, decide_eq_false (show ¬ ((kLt l t : Int) < (kLt l t : Int)) by omega), xE]
theorem aCn (s : Series) (t : Int) (ha : Asc s.Samples) (hl : s.Samples.length ≤ 20000) :
    Fcb s t (0, (s.Samples.length : Int)) = some (kLe s.Samples t : Int) := by
  unfold Fcb fO
  refine aEq (kLe s.Samples t) s.Samples.length _ ?_ ?_ s.Samples.length 0 s.Samples.length FU (by omega) (Nat.zero_le _) (cnt_le _ _) (Nat.le_refl _) (aAv (by omega))
  · intro k lo hi h1 h2 h3 h4
    obtain ⟨x, hx⟩ := mid_ok h1 h2
    have e1 : IntKind.i64.wrap ((lo : Int) + (hi : Int)) = ((lo + hi : Nat) : Int) := by rw [Go.OB.wrap_i64 (by omega) (by omega)]; omega
    have e3 : quo' .i64 ((lo + hi : Nat) : Int) 2 = some (((lo + hi) / 2 : Nat) : Int) := by
      unfold quo'
      rw [if_neg (by omega), Int.tdiv_eq_ediv_of_nonneg (by omega), Go.OB.wrap_i64 (by omega) (by omega)]
      congr 1
    have e5 : IntKind.i64.wrap ((((lo + hi) / 2 : Nat) : Int) + 1) = (((lo + hi) / 2 + 1 : Nat) : Int) := aI (n := 20000) (by omega) (by omega)
    simp only [yF, decide_eq_true (show (lo : Int) < (hi : Int) by omega), yY, e1, e3, zN, rP, hx, e5, jF]
    have q := qE ha t hx
    by_cases c : (lo + hi) / 2 < kLe s.Samples t
    · rw [if_pos c, if_pos (q.2 c)]
    · rw [if_neg c, if_neg (fun h => c (q.1 h))]
  · intro k
    simp only [yF, decide_eq_false (show ¬ ((kLe s.Samples t : Int) < (kLe s.Samples t : Int)) by omega), xE]
theorem latest_eq (s : Series) (t : Int) (ha : Asc s.Samples) (hl : s.Samples.length ≤ 20000) (hr : ∀ (i : Nat) (x : fF), s.Samples[i]? = some x → 0 ≤ x.At ∧ x.At ≤ 1099511627776) (ht : 0 ≤ t ∧ t ≤ 1099511627776) :
    Fbd s t = some ((kLe s.Samples t : Int) - 1) := by
  unfold Fbd Fb1
  simp only [yF, bsearch_eq s.Samples t ha hl hr ht, zN]
  have hc1 := cnt_le (fun x : fF => decide (x.At < t)) s.Samples
  have hc2 := cnt_le (fun x : fF => decide (x.At ≤ t)) s.Samples
  change kLt s.Samples t ≤ _ at hc1
  change kLe s.Samples t ≤ _ at hc2
  have hw : ∀ n : Nat, n ≤ 20000 → IntKind.i64.wrap ((n : Int) - 1) = (n : Int) - 1 := fun n hn => Go.OB.wrap_i64 (by omega) (by omega)
  by_cases c : kLt s.Samples t < s.Samples.length
  · obtain ⟨x, hx⟩ : ∃ x, s.Samples[kLt s.Samples t]? = some x := ⟨_, List.getElem?_eq_getElem c⟩
    have hb := hr _ _ hx
    have q1 := sS ha t hx
    have q2 := qE ha t hx
    have e6 : Faj x t = some (x.At - t) := by
      unfold Faj
      rw [yF, Go.OB.wrap_i64 (by omega) (by omega)]
    simp only [decide_eq_true (show (kLt s.Samples t : Int) < (s.Samples.length : Int) by omega), yY, rP, hx, zN, e6]
    have nle : ∀ j y, s.Samples[j]? = some y → kLt s.Samples t < j → ¬ y.At ≤ t := by
      intro j y hy hj h
      have := ha _ _ _ _ hx hy hj
      have := q1
      omega
    by_cases e : x.At - t = 0
    · have hk : kLe s.Samples t = kLt s.Samples t + 1 := by
        have h1 := q2.1 (by omega)
        by_cases h2 : kLt s.Samples t + 1 < kLe s.Samples t
        · obtain ⟨y, hy⟩ : ∃ y, s.Samples[kLt s.Samples t + 1]? = some y := ⟨_, List.getElem?_eq_getElem (by omega)⟩
          exact absurd ((qE ha t hy).2 h2) (nle _ _ hy (by omega))
        · omega
      simp only [decide_eq_true e, yY]
      rw [hk]; congr 1; omega
    · have hk : kLe s.Samples t = kLt s.Samples t := by
        have h1 : ¬ kLt s.Samples t < kLe s.Samples t := fun h => by have := q2.2 h; have : ¬ x.At < t := fun h => by have := q1.1 h; omega
                                                                     omega
        by_cases h2 : kLe s.Samples t < kLt s.Samples t
        · obtain ⟨y, hy⟩ : ∃ y, s.Samples[kLe s.Samples t]? = some y := ⟨_, List.getElem?_eq_getElem (by omega)⟩
          have := (sS ha t hy).2 h2
          have := (qE ha t hy).1 (by omega)
          omega
        · omega
      simp only [decide_eq_false e, xE]
      rw [hk, hw _ (by omega)]
  · simp only [decide_eq_false (show ¬ (kLt s.Samples t : Int) < (s.Samples.length : Int) by omega), xE, zN]
    have hk : kLe s.Samples t = kLt s.Samples t := by
      by_cases h2 : kLe s.Samples t < kLt s.Samples t
      · obtain ⟨y, hy⟩ : ∃ y, s.Samples[kLe s.Samples t]? = some y := ⟨_, List.getElem?_eq_getElem (by omega)⟩
        have := (sS ha t hy).2 h2
        have := (qE ha t hy).1 (by omega)
        omega
      · omega
    rw [hk, hw _ (by omega)]
def hld (s:Series)(t g:Int):fF×Bool:=
  match kLe s.Samples t with
  | 0=>(fF.mk 0 0 0,false)
  | n+1=>match s.Samples[n]? with
    | some x=>if (!decide (3≤x.Mark)) || decide (g<IntKind.i64.wrap (t - x.At)) then (fF.mk 0 0 0,false) else (x,true)
    | none=>(fF.mk 0 0 0,false)
theorem Held_eq (s:Series)(t g:Int)(ha:Asc s.Samples)(hl:s.Samples.length≤20000)(hr: ∀(i:Nat) (x:fF),s.Samples[i]? =some x→0≤x.At∧x.At≤1099511627776)(ht:0≤t∧t≤1099511627776):
    Faw s t g=some (hld s t g):=by
  unfold Faw Fb4 hld
  have hc:=cnt_le (fun x:fF=>decide (x.At≤t)) s.Samples
  change kLe s.Samples t≤_ at hc
  rw [latest_eq s t ha hl hr ht]
  generalize kLe s.Samples t=n at *
  cases n with
  | zero=>rfl
  | succ n=>
    obtain ⟨x,hx⟩: ∃x,s.Samples[n]? =some x:=⟨_,List.getElem?_eq_getElem (by omega)⟩
    have e:(((n+1:Nat):Int) - 1)=(n:Int):=by omega
    simp only [zN,yF,e,decide_eq_false (show¬((n:Int)<0) by omega),xE,rP,hx,Fbw]
    generalize decide (3≤x.Mark)=a
    generalize decide (g<IntKind.i64.wrap (t - x.At))=b
    cases a<;>cases b<;>rfl
theorem rHeld_eq (s:Series)(t g:Int)(ha:Asc s.Samples)(hl:s.Samples.length≤20000):Fat s t g=some (hld s t g):=by
  unfold Fat hld
  have hc:=cnt_le (fun x:fF=>decide (x.At≤t)) s.Samples
  change kLe s.Samples t≤_ at hc
  simp only [yF,aCn s t ha hl,zN]
  generalize kLe s.Samples t=n at *
  cases n with
  | zero=>rfl
  | succ n=>
    obtain ⟨x,hx⟩: ∃x,s.Samples[n]? =some x:=⟨_,List.getElem?_eq_getElem (by omega)⟩
    have e:IntKind.i64.wrap (((n+1:Nat):Int) - 1)=(n:Int):=by rw [Go.OB.wrap_i64 (by omega) (by omega)]; omega
    simp only [decide_eq_false (show¬(((n+1:Nat):Int)=0) by omega),xE,e,rP,hx,zN,Fb9,yF]
    generalize decide (3≤x.Mark)=a
    generalize decide (g<IntKind.i64.wrap (t - x.At))=b
    cases a<;>cases b<;>rfl
end Go.Lf
