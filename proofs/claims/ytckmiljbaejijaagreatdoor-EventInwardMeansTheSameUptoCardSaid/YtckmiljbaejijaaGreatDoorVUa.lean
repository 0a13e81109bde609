/- Walks: what each function computes, for every argument; no condition but those that stand in the statements. -/
import Derived.Test.YtckmiljbaejijaaGreatDoorKFa
import Derived.Test.YtckmiljbaejijaaGreatDoorNTa
import Derived.Test.YtckmiljbaejijaaGreatDoorLfQ
namespace Go.Lf
open Go.RowKit Go.OB
def aFx (x:eX):Prop:=i64 x.At∧i64 x.N∧i64 x.Mark
def aLr (x:Series):Prop:=i64 x.Den∧okL (fun x=>aFx x) x.Samples
def sN (x:fH):Prop:=okS x.Name∧aLr x.Series∧i64 x.Long
theorem aRc (a b c:Int):Faw a b c=some (decide (b≤a) && decide (a≤c)):=by
  unfold Faw; simp only [yB,kM,zU]
def aOm (l:List eX)(i:Nat)(x:eX):Int:=
  if !(decide (0≤x.At) && decide (x.At≤1099511627776)) || !(decide (-1125899906842624≤x.N) && decide (x.N≤1125899906842624)) || !(decide (0≤x.Mark) && decide (x.Mark≤4)) then 9
  else if decide (x.N≠0) && decide (x.Mark≤1) then 2
  else match i with
    | 0=>0
    | j+1=>match l[j]? with
      | some y=>if decide (x.At≤y.At) then 10 else 0
      | none=>0
def serF (l:List eX)(fin:Option (Int×Int)):Option (Int×Int):=bD (fun i x=>if aOm l i x=0 then none else some (some ((i:Int),aOm l i x))) fin l 0
theorem prev_get {l:List eX}{i:Nat}(hi:i<l.length)(hl:l.length≤9223372036854775807)(h0:0<i): ∃y,l[i - 1]? =some y∧at' l (IntKind.i64.wrap ((i:Int) - 1))=some y:=by
  have h1:i - 1<l.length:=by omega
  refine ⟨l[i - 1],List.getElem?_eq_getElem h1,?_⟩
  rw [Go.OB.wrap_i64 (by omega) (by omega),show (i:Int) - 1=((i - 1:Nat):Int) by omega]
  exact dP (List.getElem?_eq_getElem h1)
theorem check_L1 (s : Series) (hs : s.Samples.length ≤ 9223372036854775807) (k : Unit → Option (Int × Int)) : Fdc s k (s.Samples.length : Int) 0 = serF s.Samples (k ()) := by
  unfold Fdc serF
  refine wK s.Samples _ (k ()) hs ?_ ?_
  · intro kk i x hx hi
    simp only [yB, aRc, zU]
    rw [wF hi, yU, dP hx, zU, dE hi hs]
    unfold aOm
    cases decide (0 ≤ x.At) <;> cases decide (x.At ≤ 1099511627776) <;> simp only [Bool.and_true, Bool.and_false, Bool.true_and, Bool.false_and, Bool.not_true, Bool.not_false, Bool.true_or, Bool.false_or, yU, yX, zU, if_true, Bool.false_eq_true, if_false] <;> try rfl
    cases decide (-1125899906842624 ≤ x.N) <;> cases decide (x.N ≤ 1125899906842624) <;> simp only [Bool.and_true, Bool.and_false, Bool.true_and, Bool.false_and, Bool.not_true, Bool.not_false, Bool.true_or, Bool.false_or, yU, yX, zU, if_true, Bool.false_eq_true, if_false] <;> try rfl
    cases decide (0 ≤ x.Mark) <;> cases decide (x.Mark ≤ 4) <;> simp only [Bool.and_true, Bool.and_false, Bool.true_and, Bool.false_and, Bool.not_true, Bool.not_false, Bool.true_or, Bool.false_or, yU, yX, zU, if_true, Bool.false_eq_true, if_false] <;> try rfl
    cases decide (x.N ≠ 0) <;> cases decide (x.Mark ≤ 1) <;> simp only [Bool.and_true, Bool.and_false, Bool.true_and, Bool.false_and, Bool.not_true, Bool.not_false, Bool.true_or, Bool.false_or, yU, yX, zU, if_true, Bool.false_eq_true, if_false] <;> try rfl
    all_goals
      cases i with
      | zero => rfl
      | succ j =>
        obtain ⟨y, h1, h2⟩ := prev_get hi hs (by omega)
        have h3 : decide (0 < ((j + 1 : Nat) : Int)) = true := decide_eq_true (by omega)
        rw [h2, h3]
        simp only [Nat.add_sub_cancel] at h1
        simp only [yU, zU, h1]
        cases decide (x.At ≤ y.At) <;> rfl
  · intro kk; simp only [yB]; rw [wE]; rfl
def serE (s:Series):Option (Int×Int):=if !(decide (1≤s.Den) && decide (s.Den≤1000000)) then some (-1,9) else if decide (20000<(s.Samples.length:Int)) then some (-1,3) else serF s.Samples (some (-1,0))
theorem check_eq (s:Series)(hs:s.Samples.length≤9223372036854775807):Fch s=serE s:=by
  unfold Fch serE
  simp only [yB,zU,aRc,wG,check_L1 s hs,kD]
theorem wM {α β:Type}{q:Nat→α→Option (Option β)}{fin:Option β}(hf: ∃r,fin=some r)(hq: ∀i x r,q i x=some r→ ∃y,r=some y): ∀(l:List α) (i:Nat),∃r,bD q fin l i=some r
  | [],i=>hf
  | x :: l,i=>by
    rw [bD]
    cases h:q i x with
    | none=>exact wM hf hq l (i+1)
    | some r=>exact hq i x r h
theorem aLp {β:Type}{p:Prop} [Decidable p] {y:β}{r:Option β}(h:(if p then none else some (some y))=some r): ∃z,r=some z:=by
  split at h
  · cases h
  · cases h; exact ⟨_,rfl⟩
theorem aHg (s : Series) : ∃ r, serE s = some r := by
  unfold serE serF
  split
  · exact ⟨_, rfl⟩
  · split
    · exact ⟨_, rfl⟩
    · exact wM ⟨_, rfl⟩ (fun i x r h => aLp h) _ _
def aEr (s:Series):Int:=((serE s).getD (0,0)).2
theorem sCheck_eq (s:Series)(hs:s.Samples.length≤9223372036854775807):Fci s=some (aEr s):=by
  obtain ⟨r,hr⟩:=aHg s
  unfold Fci aEr; rw [check_eq s hs,hr]; rfl
theorem aKb {α:Type}(p:Nat→α→Bool): ∀(l:List α) (i:Nat),∃n,bD (fun i x=>if p i x=true then some (some (i:Int)) else none) (some (-1)) l i=some n∧decide (0≤n)=jH p l i
  | [],i=>⟨-1,rfl,rfl⟩
  | x :: l,i=>by
    rw [bD,jH]
    cases h:p i x with
    | true=>exact ⟨i,rfl,by simp⟩
    | false=>simpa using aKb p l (i+1)
theorem contT_eq (l : List fH) (c : fH) (hl : l.length ≤ 9223372036854775807) : Fb5 l c = some (jH (fun _ y => decide (y.Name = c.Name)) l 0) := by
  obtain ⟨n, h1, h2⟩ := aKb (fun (_ : Nat) (y : fH) => decide (y.Name = c.Name)) l 0
  have e : Fcq l c = some n := by
    unfold Fcq
    simp only [yB, wG]
    unfold Fe1
    rw [← h1]
    refine wK l _ _ hl ?_ ?_
    · intro kk i x hx hi
      unfold Fc4
      simp only [yB, zU]
      rw [wF hi, yU, dP hx, zU, dE hi hl]
      cases decide (x.Name = c.Name) <;> rfl
    · intro kk; simp only [yB]; rw [wE]; rfl
  unfold Fb5
  rw [e]
  simp only [yB, zU, h2]
def aOc (l:List fH)(i:Nat)(x:fH):Int:=
  if !uG x.Name then 8 else if jH (fun _ y=>decide (y.Name=x.Name)) (l.take i) 0 then 5
  else if aEr x.Series≠0 then aEr x.Series else if !(decide (0≤x.Long) && decide (x.Long≤1099511627776)) then 9 else 0
def aPr (l:List fH):Option Int:=if decide (50<(l.length:Int)) then some 3 else bD (fun i x=>if aOc l i x=0 then none else some (some (aOc l i x))) (some 0) l 0
theorem aPa {l:List fH}(h:okL sN l){i:Nat}{x:fH}(hx:l[i]? =some x):okS x.Name∧x.Series.Samples.length≤9223372036854775807:=by
  have:=h.2 x (List.mem_of_getElem? hx)
  exact ⟨this.1,this.2.1.2.1⟩
theorem aDv (l : List fH) (h : okL sN l) : Fb7 l = aPr l := by
  unfold Fb7 aPr
  simp only [yB, wG, kD]
  congr 1
  unfold Fep
  refine wK l _ _ h.1 ?_ ?_
  · intro kk i x hx hi
    obtain ⟨o1, o2⟩ := aPa h hx
    simp only [yB]
    rw [wF hi, yU, dP hx, zU, rH _ o1, zU, sub_nat l (by omega), dE hi h.1]
    simp only [zU, contT_eq (l.take i) x (by have := h.1; simp; omega), sCheck_eq _ o2, aJh]
    unfold aOc
    cases uG x.Name
    · rfl
    · cases jH (fun _ y => decide (y.Name = x.Name)) (l.take i) 0
      · simp only [Bool.not_true, yX, Bool.false_eq_true, if_false, wC, kD]
        by_cases hz : aEr x.Series = 0
        · cases (decide (0 ≤ x.Long) && decide (x.Long ≤ 1099511627776)) <;> simp [hz]
        · simp [hz]
      · rfl
  · intro kk; simp only [yB]; rw [wE]; rfl
theorem trkF_some (l:List fH): ∃r,aPr l=some r:=by
  unfold aPr
  split
  · exact ⟨_,rfl⟩
  · exact wM ⟨_,rfl⟩ (fun i x r h=>aLp h) _ _
def aBm (l:List fH):Int:=(aPr l).getD 0
theorem aRl (l:List fH):aPr l=some (aBm l):=by obtain ⟨r,h⟩:=trkF_some l; unfold aBm; rw [h]; rfl
theorem aFi {α : Type} (e : Nat → α → Int) : ∀ (l : List α) (i : Nat), bD (fun i x => if e i x = 0 then none else some (some (e i x))) (some 0) l i = some 0 ↔ ∀ j x, l[j]? = some x → e (i + j) x = 0
  | [], i => by simp [bD]
  | x :: l, i => by
    rw [bD]
    by_cases h : e i x = 0
    · rw [if_pos h]
      refine (aFi e l (i + 1)).trans ?_
      constructor
      · intro q j y hy
        cases j with
        | zero => simp at hy; subst hy; simpa using h
        | succ j => have := q j y (by simpa using hy); rwa [show i + (j + 1) = i + 1 + j by omega]
      · intro q j y hy; have := q (j + 1) y (by simpa using hy); rwa [show i + (j + 1) = i + 1 + j by omega] at this
    · rw [if_neg h]
      constructor
      · intro q; exact absurd (Option.some.inj q) h
      · intro q; exact absurd (by simpa using q 0 x rfl) h
theorem aQz (l : List fH) : aBm l = 0 ↔ l.length ≤ 50 ∧ ∀ i x, l[i]? = some x → aOc l i x = 0 := by
  have e := aRl l
  unfold aPr at e
  split at e
  · rename_i h
    simp only [decide_eq_true_eq] at h
    have := Option.some.inj e
    constructor
    · intro h0; omega
    · intro h0; omega
  · rename_i h
    simp only [decide_eq_true_eq] at h
    have f := aFi (aOc l) l 0
    simp only [Nat.zero_add] at f
    rw [e] at f
    constructor
    · intro h0; exact ⟨by omega, f.1 (by rw [h0])⟩
    · rintro ⟨_, h0⟩; exact Option.some.inj (f.2 h0)
theorem aNb (l : List fH) (i : Nat) (x : fH) : aOc l i x = 0 ↔ uG x.Name = true ∧ jH (fun _ y => decide (y.Name = x.Name)) (l.take i) 0 = false ∧ aEr x.Series = 0 ∧ 0 ≤ x.Long ∧ x.Long ≤ 1099511627776 := by
  unfold aOc
  cases uG x.Name
  · simp
  · cases jH (fun _ y => decide (y.Name = x.Name)) (l.take i) 0
    · by_cases hz : aEr x.Series = 0
      · simp [hz]
      · simp [hz]
    · simp
theorem aHy (e : Nat → eX → Int) : ∀ (l : List eX) (i : Nat) (r : Int × Int), bD (fun i x => if e i x = 0 then none else some (some ((i : Int), e i x))) (some (-1, 0)) l i = some r → (r.2 = 0 ↔ ∀ j x, l[j]? = some x → e (i + j) x = 0)
  | [], i, r, h => by cases h; simp
  | x :: l, i, r, h => by
    rw [bD] at h
    by_cases hz : e i x = 0
    · rw [if_pos hz] at h
      refine (aHy e l (i + 1) r h).trans ?_
      constructor
      · intro q j y hy
        cases j with
        | zero => simp at hy; subst hy; simpa using hz
        | succ j => have := q j y (by simpa using hy); rwa [show i + (j + 1) = i + 1 + j by omega]
      · intro q j y hy; have := q (j + 1) y (by simpa using hy); rwa [show i + (j + 1) = i + 1 + j by omega] at this
    · rw [if_neg hz] at h
      have hr := Option.some.inj h
      subst hr
      constructor
      · intro q; exact absurd q hz
      · intro q; exact absurd (by simpa using q 0 x rfl) hz
theorem ser_iff (s : Series) : aEr s = 0 ↔ (1 ≤ s.Den ∧ s.Den ≤ 1000000) ∧ s.Samples.length ≤ 20000 ∧ ∀ i x, s.Samples[i]? = some x → aOm s.Samples i x = 0 := by
  obtain ⟨r, hr⟩ := aHg s
  have e : aEr s = r.2 := by unfold aEr; rw [hr]; rfl
  rw [e]
  unfold serE at hr
  split at hr
  · rename_i h
    cases hr
    simp only [Bool.not_eq_true', Bool.and_eq_false_iff, decide_eq_false_iff_not] at h
    constructor
    · intro h0; cases h0
    · rintro ⟨h1, _⟩; omega
  · rename_i h
    simp only [Bool.not_eq_true', Bool.and_eq_false_iff, decide_eq_false_iff_not] at h
    split at hr
    · rename_i h2
      simp only [decide_eq_true_eq] at h2
      cases hr
      constructor
      · intro h0; cases h0
      · rintro ⟨_, h1, _⟩; omega
    · rename_i h2
      simp only [decide_eq_true_eq] at h2
      have := aHy (aOm s.Samples) s.Samples 0 r hr
      simp only [Nat.zero_add] at this
      rw [this]
      constructor
      · intro q; exact ⟨by omega, by omega, q⟩
      · intro q; exact q.2.2
theorem aLg {l:List fH}(h:aBm l=0){i j:Nat}{x y:fH}(hx:l[i]? =some x)(hy:l[j]? =some y)(hij:i<j):x.Name≠y.Name:=by
  have:=((aNb l j y).1 (((aQz l).1 h).2 j y hy)).2.1
  intro e
  have t:jH (fun _ z=>decide (z.Name=y.Name)) (l.take j) 0=true:=(aEz _ _ _).2 ⟨i,x,by rw [List.getElem?_take,if_pos hij]; exact hx,by simpa using e⟩
  rw [this] at t; cases t
theorem names_pw {l:List fH}(h:aBm l=0):l.Pairwise fun a b=>a.Name≠b.Name:=by
  rw [List.pairwise_iff_getElem]
  intro i j hi hj hij
  exact aLg h (List.getElem?_eq_getElem hi) (List.getElem?_eq_getElem hj) hij
end Go.Lf
namespace Go.Lf
open Go.RowKit Go.OB
section
variable {β:Type}
theorem bs_loop {body : (Int × Int → Option β) → Int × Int → Option β} (K n : Nat) (r : Option β)
    (hs : ∀ k (lo hi : Nat), lo < hi → hi ≤ n → lo ≤ K → K ≤ hi → body k ((lo : Int), (hi : Int)) = if (lo + hi) / 2 < K then k (((lo + hi) / 2 + 1 : Nat), (hi : Int)) else k ((lo : Int), ((lo + hi) / 2 : Nat)))
    (he : ∀ k, body k ((K : Int), (K : Int)) = r) : ∀ (m lo hi fu : Nat), hi - lo ≤ m → lo ≤ K → K ≤ hi → hi ≤ n → m < fu → fV body fu ((lo : Int), (hi : Int)) = r := by
  intro m
  induction m with
  | zero =>
    intro lo hi fu h1 h2 h3 h4 h5
    obtain ⟨f, rfl⟩ : ∃ f, fu = f + 1 := ⟨fu - 1, by omega⟩
    have e1 : lo = K := by omega
    have e2 : hi = K := by omega
    subst e1; subst e2
    exact he _
  | succ m ih =>
    intro lo hi fu h1 h2 h3 h4 h5
    obtain ⟨f, rfl⟩ : ∃ f, fu = f + 1 := ⟨fu - 1, by omega⟩
    by_cases h : lo < hi
    · show body (fV body f) _ = r
      rw [hs _ lo hi h h4 h2 h3]
      by_cases hc : (lo + hi) / 2 < K
      · rw [if_pos hc]; exact ih _ _ f (by omega) (by omega) h3 h4 (by omega)
      · rw [if_neg hc]; exact ih _ _ f (by omega) h2 (by omega) (by omega) (by omega)
    · have e1 : lo = K := by omega
      have e2 : hi = K := by omega
      subst e1; subst e2
      exact he _
end
def cntP {α:Type}(p:α→Bool)(l:List α):Nat:=(l.takeWhile p).length
theorem aAi {α:Type}(p:α→Bool): ∀l:List α,cntP p l≤l.length
  | []=>Nat.le_refl _
  | x :: l=>by
    unfold cntP
    rw [List.takeWhile_cons]
    cases p x
    · exact Nat.zero_le _
    · exact Nat.succ_le_succ (aAi p l)
theorem aIn {α : Type} (p : α → Bool) : ∀ (l : List α) (_ : ∀ (i j : Nat) x y, l[i]? = some x → l[j]? = some y → i < j → p y = true → p x = true) (i : Nat) (x : α), l[i]? = some x → (p x = true ↔ i < cntP p l)
  | [], _, i, x, hx => by simp at hx
  | a :: l, hm, i, x, hx => by
    have ih := aIn p l (fun i j x y h1 h2 h3 h4 => hm (i + 1) (j + 1) x y (by simpa using h1) (by simpa using h2) (by omega) h4)
    unfold cntP
    rw [List.takeWhile_cons]
    cases hp : p a with
    | false =>
      constructor
      · intro h
        cases i with
        | zero => simp at hx; subst hx; rw [hp] at h; cases h
        | succ i => have := hm 0 (i + 1) a x rfl hx (by omega) h; rw [hp] at this; cases this
      · intro h; simp at h
    | true =>
      cases i with
      | zero => simp at hx; subst hx; simp [hp]
      | succ i =>
        rw [if_pos rfl, List.length_cons, Nat.add_lt_add_iff_right]
        exact ih i x (by simpa using hx)
def Asc (l:List eX):Prop:= ∀(i j:Nat) x y,l[i]? =some x→l[j]? =some y→i<j→x.At<y.At
theorem asc_of {s : Series} (h : aEr s = 0) : Asc s.Samples ∧ s.Samples.length ≤ 20000 ∧ ∀ (i : Nat) (x : eX), s.Samples[i]? = some x → 0 ≤ x.At ∧ x.At ≤ 1099511627776 := by
  obtain ⟨-, hl, hx⟩ := (ser_iff s).1 h
  have step : ∀ i x y, s.Samples[i]? = some x → s.Samples[i + 1]? = some y → x.At < y.At := by
    intro i x y h1 h2
    have q := hx (i + 1) y h2
    unfold aOm at q
    split at q
    · exact absurd q (by decide)
    · split at q
      · exact absurd q (by decide)
      · simp only [h1] at q
        by_cases c : y.At ≤ x.At
        · simp [c] at q
        · omega
  refine ⟨?_, hl, fun i x h1 => ?_⟩
  · intro i j x y h1 h2 hij
    obtain ⟨d, rfl⟩ : ∃ d, j = i + 1 + d := ⟨j - (i + 1), by omega⟩
    clear hij
    induction d generalizing y with
    | zero => exact step i x y h1 h2
    | succ d ih =>
      have hlt := (List.getElem?_eq_some_iff.1 h2).1
      obtain ⟨z, hz⟩ : ∃ z, s.Samples[i + 1 + d]? = some z := ⟨_, List.getElem?_eq_getElem (by omega)⟩
      have := ih z hz
      have := step (i + 1 + d) z y hz h2
      omega
  · have q := hx i x h1
    unfold aOm at q
    split at q
    · exact absurd q (by decide)
    · rename_i c
      simp only [Bool.or_eq_true, Bool.not_eq_true', Bool.and_eq_false_iff, decide_eq_false_iff_not, not_or, Decidable.not_not, not_and] at c
      by_cases c1 : 0 ≤ x.At
      · by_cases c2 : x.At ≤ 1099511627776
        · exact ⟨c1, c2⟩
        · simp [c2] at c
      · simp [c1] at c
def kLt (l:List eX)(t:Int):Nat:=cntP (fun x=>decide (x.At<t)) l
def kLe (l:List eX)(t:Int):Nat:=cntP (fun x=>decide (x.At≤t)) l
theorem aDe {l:List eX}(ha:Asc l)(t:Int){i:Nat}{x:eX}(hx:l[i]? =some x):x.At<t↔i<kLt l t:=by
  have:=aIn (fun x:eX=>decide (x.At<t)) l (fun i j x y h1 h2 h3 h4=>by have:=ha i j x y h1 h2 h3; simp only [decide_eq_true_eq] at *; omega) i x hx
  unfold kLt; simpa using this
theorem aDd {l:List eX}(ha:Asc l)(t:Int){i:Nat}{x:eX}(hx:l[i]? =some x):x.At≤t↔i<kLe l t:=by
  have:=aIn (fun x:eX=>decide (x.At≤t)) l (fun i j x y h1 h2 h3 h4=>by have:=ha i j x y h1 h2 h3; simp only [decide_eq_true_eq] at *; omega) i x hx
  unfold kLe; simpa using this
theorem mid_ok {l:List eX}{lo hi:Nat}(h:lo<hi)(hh:hi≤l.length): ∃x,l[(lo+hi) / 2]? =some x:=⟨_,List.getElem?_eq_getElem (by omega)⟩
theorem bsearch_eq (l : List eX) (t : Int) (ha : Asc l) (hl : l.length ≤ 20000) (hr : ∀ (i : Nat) (x : eX), l[i]? = some x → 0 ≤ x.At ∧ x.At ≤ 1099511627776) (ht : 0 ≤ t ∧ t ≤ 1099511627776) :
    Fdi l t (0, (l.length : Int)) = some (kLt l t : Int) := by
  unfold Fdi eQ
  refine bs_loop (kLt l t) l.length _ ?_ ?_ l.length 0 l.length FU (by omega) (Nat.zero_le _) (aAi _ _) (Nat.le_refl _) (aBr (by omega))
  · intro k lo hi h1 h2 h3 h4
    obtain ⟨x, hx⟩ := mid_ok h1 h2
    have e1 : IntKind.i64.wrap ((lo : Int) + (hi : Int)) = ((lo + hi : Nat) : Int) := by rw [Go.OB.wrap_i64 (by omega) (by omega)]; omega
    have e2 : IntKind.u64.wrap ((lo + hi : Nat) : Int) = ((lo + hi : Nat) : Int) := by rw [IntKind.wrap_u64]; omega
    have e3 : vW .u64 ((lo + hi : Nat) : Int) 1 = some (((lo + hi) / 2 : Nat) : Int) := by
      unfold vW
      rw [if_pos (by decide)]
      congr 1
    have e4 : IntKind.i64.wrap (((lo + hi) / 2 : Nat) : Int) = (((lo + hi) / 2 : Nat) : Int) := by rw [Go.OB.wrap_i64 (by omega) (by omega)]
    have e5 : IntKind.i64.wrap ((((lo + hi) / 2 : Nat) : Int) + 1) = (((lo + hi) / 2 + 1 : Nat) : Int) := dE (n := 20000) (by omega) (by omega)
    have hb := hr _ _ hx
    have e6 : Fau x t = some (x.At - t) := by
      unfold Fau
      rw [yB, Go.OB.wrap_i64 (by omega) (by omega)]
    simp only [yB, decide_eq_true (show (lo : Int) < (hi : Int) by omega), yU, e1, e2, e3, zU, e4, aKi, hx, e6, e5, wC]
    have q := aDe ha t hx
    by_cases c : (lo + hi) / 2 < kLt l t
    · rw [if_pos c, if_pos (by have := q.2 c; omega)]
    · rw [if_neg c, if_neg (by intro h; exact c (q.1 (by omega)))]
  · intro k
    simp only [yB, decide_eq_false (show ¬ ((kLt l t : Int) < (kLt l t : Int)) by omega), yX]
theorem latest_eq (s : Series) (t : Int) (ha : Asc s.Samples) (hl : s.Samples.length ≤ 20000) (hr : ∀ (i : Nat) (x : eX), s.Samples[i]? = some x → 0 ≤ x.At ∧ x.At ≤ 1099511627776) (ht : 0 ≤ t ∧ t ≤ 1099511627776) :
    Fcv s t = some ((kLe s.Samples t : Int) - 1) := by
  unfold Fcv Fdu
  simp only [yB, bsearch_eq s.Samples t ha hl hr ht, zU]
  have hc1 := aAi (fun x : eX => decide (x.At < t)) s.Samples
  have hc2 := aAi (fun x : eX => decide (x.At ≤ t)) s.Samples
  change kLt s.Samples t ≤ _ at hc1
  change kLe s.Samples t ≤ _ at hc2
  have hw : ∀ n : Nat, n ≤ 20000 → IntKind.i64.wrap ((n : Int) - 1) = (n : Int) - 1 := fun n hn => Go.OB.wrap_i64 (by omega) (by omega)
  by_cases c : kLt s.Samples t < s.Samples.length
  · obtain ⟨x, hx⟩ : ∃ x, s.Samples[kLt s.Samples t]? = some x := ⟨_, List.getElem?_eq_getElem c⟩
    have hb := hr _ _ hx
    have q1 := aDe ha t hx
    have q2 := aDd ha t hx
    have e6 : Fau x t = some (x.At - t) := by
      unfold Fau
      rw [yB, Go.OB.wrap_i64 (by omega) (by omega)]
    simp only [decide_eq_true (show (kLt s.Samples t : Int) < (s.Samples.length : Int) by omega), yU, aKi, hx, zU, e6]
    have nle : ∀ j y, s.Samples[j]? = some y → kLt s.Samples t < j → ¬ y.At ≤ t := by
      intro j y hy hj h
      have := ha _ _ _ _ hx hy hj
      have := q1
      omega
    by_cases e : x.At - t = 0
    · have hk : kLe s.Samples t = kLt s.Samples t + 1 := by
        have h1 := q2.1 (by omega)
        by_cases h2 : kLt s.Samples t + 1 < kLe s.Samples t
        · obtain ⟨y, hy⟩ : ∃ y, s.Samples[kLt s.Samples t + 1]? = some y := ⟨_, List.getElem?_eq_getElem (by omega)⟩
          exact absurd ((aDd ha t hy).2 h2) (nle _ _ hy (by omega))
        · omega
      simp only [decide_eq_true e, yU]
      rw [hk]; congr 1; omega
    · have hk : kLe s.Samples t = kLt s.Samples t := by
        have h1 : ¬ kLt s.Samples t < kLe s.Samples t := fun h => by have := q2.2 h; have : ¬ x.At < t := fun h => by have := q1.1 h; omega
                                                                     omega
        by_cases h2 : kLe s.Samples t < kLt s.Samples t
        · obtain ⟨y, hy⟩ : ∃ y, s.Samples[kLe s.Samples t]? = some y := ⟨_, List.getElem?_eq_getElem (by omega)⟩
          have := (aDe ha t hy).2 h2
          have := (aDd ha t hy).1 (by omega)
          omega
        · omega
      simp only [decide_eq_false e, yX]
      rw [hk, hw _ (by omega)]
  · simp only [decide_eq_false (show ¬ (kLt s.Samples t : Int) < (s.Samples.length : Int) by omega), yX, zU]
    have hk : kLe s.Samples t = kLt s.Samples t := by
      by_cases h2 : kLe s.Samples t < kLt s.Samples t
      · obtain ⟨y, hy⟩ : ∃ y, s.Samples[kLe s.Samples t]? = some y := ⟨_, List.getElem?_eq_getElem (by omega)⟩
        have := (aDe ha t hy).2 h2
        have := (aDd ha t hy).1 (by omega)
        omega
      · omega
    rw [hk, hw _ (by omega)]
def hld (s:Series)(t g:Int):eX×Bool:=
  match kLe s.Samples t with
  | 0=>(eX.mk 0 0 0,false)
  | n+1=>match s.Samples[n]? with
    | some x=>if (!decide (3≤x.Mark)) || decide (g<IntKind.i64.wrap (t - x.At)) then (eX.mk 0 0 0,false) else (x,true)
    | none=>(eX.mk 0 0 0,false)
theorem Held_eq (s:Series)(t g:Int)(ha:Asc s.Samples)(hl:s.Samples.length≤20000)(hr: ∀(i:Nat) (x:eX),s.Samples[i]? =some x→0≤x.At∧x.At≤1099511627776)(ht:0≤t∧t≤1099511627776):
    Fcl s t g=some (hld s t g):=by
  unfold Fcl Fdm hld
  have hc:=aAi (fun x:eX=>decide (x.At≤t)) s.Samples
  change kLe s.Samples t≤_ at hc
  rw [latest_eq s t ha hl hr ht]
  generalize kLe s.Samples t=n at *
  cases n with
  | zero=>rfl
  | succ n=>
    obtain ⟨x,hx⟩: ∃x,s.Samples[n]? =some x:=⟨_,List.getElem?_eq_getElem (by omega)⟩
    have e:(((n+1:Nat):Int) - 1)=(n:Int):=by omega
    simp only [zU,yB,e,decide_eq_false (show¬((n:Int)<0) by omega),yX,aKi,hx,Fdj]
    generalize decide (3≤x.Mark)=a
    generalize decide (g<IntKind.i64.wrap (t - x.At))=b
    cases a<;>cases b<;>rfl
end Go.Lf
namespace Go.Lf
open Go.RowKit Go.OB
def inT (n:Int)(t:fH):eH:=eH.mk (hld t.Series (64 * n+63) t.Long).1.N (hld t.Series (64 * n+63) t.Long).2
theorem apT (p:List eH)(x:eH)(h:p.length≤1000):app' 16 p [x]=some (p++ [x]):=by
  unfold app'
  rw [if_pos ⟨by rw [Go.OB.maxLen_eq]; simp; omega,by simp; omega⟩]
theorem time_eq {n:Int}(h0:0≤n)(h1:n≤4194303):IntKind.i64.wrap (IntKind.i64.wrap (IntKind.i64.wrap (64 * n)+64) - 1)=64 * n+63:=by
  rw [Go.OB.wrap_i64 (n:=64 * n) (by omega) (by omega),Go.OB.wrap_i64 (n:=64 * n+64) (by omega) (by omega),Go.OB.wrap_i64 (by omega) (by omega)]
  omega
theorem aLv {l:List fH}(h:aBm l=0):l.length≤50∧ ∀(i:Nat) (x:fH),l[i]? =some x→Asc x.Series.Samples∧x.Series.Samples.length≤20000∧ ∀(j:Nat) (y:eX),x.Series.Samples[j]? =some y→0≤y.At∧y.At≤1099511627776:=by
  obtain ⟨h1,h2⟩:=(aQz l).1 h
  exact ⟨h1,fun i x hx=>asc_of ((aNb l i x).1 (h2 i x hx)).2.2.1⟩
theorem nU {α:Type}{l:List α}{i:Nat}{x:α}(hx:l[i]? =some x):l.take (i+1)=l.take i++ [x]:=by
  rw [List.take_add_one,hx]; rfl
theorem inputs_eq (l : List fH) (n : Int) (h : aBm l = 0) (h0 : 0 ≤ n) (h1 : n ≤ 4194303) : Fbl l n = some (l.map (inT n)) := by
  obtain ⟨hl, hg⟩ := aLv h
  unfold Fbl Fed
  simp only [yB]
  rw [show (([] : List eH), (0 : Int)) = (fun (i : Nat) => ((l.take i).map (inT n), (i : Int))) 0 by simp]
  rw [aP (fun (i : Nat) => ((l.take i).map (inT n), (i : Int))) l (some (l.map (inT n))) (by omega) ?_ ?_]
  · rfl
  · intro k i x hx hi
    obtain ⟨g1, g2, g3⟩ := hg i x hx
    simp only [time_eq h0 h1]
    rw [wF hi, yU, dP hx, zU, Held_eq _ _ _ g1 g2 g3 (by omega), zU]
    rw [apT _ _ (by simp; omega), zU, dE hi (by omega), nU hx, List.map_append]
    rfl
  · intro k
    rw [wE, yX, List.take_length]
end Go.Lf
