/- Walks: what each function computes, for every argument; no condition but those that stand in the statements. -/
import Derived.Test.YthllgjnlmjpinaaGreatDoorDNa
import Derived.Test.YthllgjnlmjpinaaGreatDoorLfQ
import Derived.Test.YthllgjnlmjpinaaGreatDoorPLb
namespace Go.Lf
open Go.RowKit Go.OB
section
variable {β:Type}
theorem bs_loop {body : (Int × Int → Option β) → Int × Int → Option β} (K n : Nat) (r : Option β)
    (hs : ∀ k (lo hi : Nat), lo < hi → hi ≤ n → lo ≤ K → K ≤ hi → body k ((lo : Int), (hi : Int)) = if (lo + hi) / 2 < K then k (((lo + hi) / 2 + 1 : Nat), (hi : Int)) else k ((lo : Int), ((lo + hi) / 2 : Nat)))
    (he : ∀ k, body k ((K : Int), (K : Int)) = r) : ∀ (m lo hi fu : Nat), hi - lo ≤ m → lo ≤ K → K ≤ hi → hi ≤ n → m < fu → fK body fu ((lo : Int), (hi : Int)) = r := by
  intro m
  induction m with
  | zero =>
    intro lo hi fu h1 h2 h3 h4 h5
    obtain ⟨f, rfl⟩ : ∃ f, fu = f + 1 := ⟨fu - 1, by omega⟩
    have e1 : lo = K := by omega
    have e2 : hi = K := by omega
    subst e1; subst e2
    exact he _
  | succ m ih =>
    intro lo hi fu h1 h2 h3 h4 h5
    obtain ⟨f, rfl⟩ : ∃ f, fu = f + 1 := ⟨fu - 1, by omega⟩
    by_cases h : lo < hi
    · show body (fK body f) _ = r
      rw [hs _ lo hi h h4 h2 h3]
      by_cases hc : (lo + hi) / 2 < K
      · rw [if_pos hc]; exact ih _ _ f (by omega) (by omega) h3 h4 (by omega)
      · rw [if_neg hc]; exact ih _ _ f (by omega) h2 (by omega) (by omega) (by omega)
    · have e1 : lo = K := by omega
      have e2 : hi = K := by omega
      subst e1; subst e2
      exact he _
end
def cntP {α:Type}(p:α→Bool)(l:List α):Nat:=(l.takeWhile p).length
theorem aBy {α:Type}(p:α→Bool): ∀l:List α,cntP p l≤l.length
  | []=>Nat.le_refl _
  | x :: l=>by
    unfold cntP
    rw [List.takeWhile_cons]
    cases p x
    · exact Nat.zero_le _
    · exact Nat.succ_le_succ (aBy p l)
theorem aKk {α : Type} (p : α → Bool) : ∀ (l : List α) (_ : ∀ (i j : Nat) x y, l[i]? = some x → l[j]? = some y → i < j → p y = true → p x = true) (i : Nat) (x : α), l[i]? = some x → (p x = true ↔ i < cntP p l)
  | [], _, i, x, hx => by simp at hx
  | a :: l, hm, i, x, hx => by
    have ih := aKk p l (fun i j x y h1 h2 h3 h4 => hm (i + 1) (j + 1) x y (by simpa using h1) (by simpa using h2) (by omega) h4)
    unfold cntP
    rw [List.takeWhile_cons]
    cases hp : p a with
    | false =>
      constructor
      · intro h
        cases i with
        | zero => simp at hx; subst hx; rw [hp] at h; cases h
        | succ i => have := hm 0 (i + 1) a x rfl hx (by omega) h; rw [hp] at this; cases this
      · intro h; simp at h
    | true =>
      cases i with
      | zero => simp at hx; subst hx; simp [hp]
      | succ i =>
        rw [if_pos rfl, List.length_cons, Nat.add_lt_add_iff_right]
        exact ih i x (by simpa using hx)
def Asc (l:List gZ):Prop:= ∀(i j:Nat) x y,l[i]? =some x→l[j]? =some y→i<j→x.At<y.At
theorem asc_of {s : Series} (h : nD s = 0) : Asc s.Samples ∧ s.Samples.length ≤ 20000 ∧ ∀ (i : Nat) (x : gZ), s.Samples[i]? = some x → 0 ≤ x.At ∧ x.At ≤ 1099511627776 := by
  obtain ⟨-, hl, hx⟩ := (wP s).1 h
  have step : ∀ i x y, s.Samples[i]? = some x → s.Samples[i + 1]? = some y → x.At < y.At := by
    intro i x y h1 h2
    have q := hx (i + 1) y h2
    unfold aGg at q
    split at q
    · exact absurd q (by decide)
    · split at q
      · exact absurd q (by decide)
      · simp only [h1] at q
        by_cases c : y.At ≤ x.At
        · simp [c] at q
        · omega
  refine ⟨?_, hl, fun i x h1 => ?_⟩
  · intro i j x y h1 h2 hij
    obtain ⟨d, rfl⟩ : ∃ d, j = i + 1 + d := ⟨j - (i + 1), by omega⟩
    clear hij
    induction d generalizing y with
    | zero => exact step i x y h1 h2
    | succ d ih =>
      have hlt := (List.getElem?_eq_some_iff.1 h2).1
      obtain ⟨z, hz⟩ : ∃ z, s.Samples[i + 1 + d]? = some z := ⟨_, List.getElem?_eq_getElem (by omega)⟩
      have := ih z hz
      have := step (i + 1 + d) z y hz h2
      omega
  · have q := hx i x h1
    unfold aGg at q
    split at q
    · exact absurd q (by decide)
    · rename_i c
      simp only [Bool.or_eq_true, Bool.not_eq_true', Bool.and_eq_false_iff, decide_eq_false_iff_not, not_or, Decidable.not_not, not_and] at c
      by_cases c1 : 0 ≤ x.At
      · by_cases c2 : x.At ≤ 1099511627776
        · exact ⟨c1, c2⟩
        · simp [c2] at c
      · simp [c1] at c
def kLt (l:List gZ)(t:Int):Nat:=cntP (fun x=>decide (x.At<t)) l
def kLe (l:List gZ)(t:Int):Nat:=cntP (fun x=>decide (x.At≤t)) l
theorem aFo {l:List gZ}(ha:Asc l)(t:Int){i:Nat}{x:gZ}(hx:l[i]? =some x):x.At<t↔i<kLt l t:=by
 have:=aKk (fun x:gZ=>decide (x.At<t)) l (fun i j x y h1 h2 h3 h4=>by have:=ha i j x y h1 h2 h3; simp only [decide_eq_true_eq] at *; omega) i x hx;unfold kLt; simpa using this
theorem aFp {l:List gZ}(ha:Asc l)(t:Int){i:Nat}{x:gZ}(hx:l[i]? =some x):x.At≤t↔i<kLe l t:=by
 have:=aKk (fun x:gZ=>decide (x.At≤t)) l (fun i j x y h1 h2 h3 h4=>by have:=ha i j x y h1 h2 h3; simp only [decide_eq_true_eq] at *; omega) i x hx;unfold kLe; simpa using this
theorem mid_ok {l:List gZ}{lo hi:Nat}(h:lo<hi)(hh:hi≤l.length): ∃x,l[(lo+hi) / 2]? =some x:=⟨_,List.getElem?_eq_getElem (by omega)⟩
theorem bsearch_eq (l : List gZ) (t : Int) (ha : Asc l) (hl : l.length ≤ 20000) (hr : ∀ (i : Nat) (x : gZ), l[i]? = some x → 0 ≤ x.At ∧ x.At ≤ 1099511627776) (ht : 0 ≤ t ∧ t ≤ 1099511627776) :
    Ffc l t (0, (l.length : Int)) = some (kLt l t : Int) := by
  unfold Ffc fV
  refine bs_loop (kLt l t) l.length _ ?_ ?_ l.length 0 l.length FU (by omega) (Nat.zero_le _) (aBy _ _) (Nat.le_refl _) (vJ (by omega))
  · intro k lo hi h1 h2 h3 h4
    obtain ⟨x, hx⟩ := mid_ok h1 h2
    have e1 : IntKind.i64.wrap ((lo : Int) + (hi : Int)) = ((lo + hi : Nat) : Int) := by rw [Go.OB.wrap_i64 (by omega) (by omega)]; omega
    have e2 : IntKind.u64.wrap ((lo + hi : Nat) : Int) = ((lo + hi : Nat) : Int) := by rw [IntKind.wrap_u64]; omega
    have e3 : rY .u64 ((lo + hi : Nat) : Int) 1 = some (((lo + hi) / 2 : Nat) : Int) := by
      unfold rY
      rw [if_pos (by decide)]
      congr 1
    have e4 : IntKind.i64.wrap (((lo + hi) / 2 : Nat) : Int) = (((lo + hi) / 2 : Nat) : Int) := by rw [Go.OB.wrap_i64 (by omega) (by omega)]
    have e5 : IntKind.i64.wrap ((((lo + hi) / 2 : Nat) : Int) + 1) = (((lo + hi) / 2 + 1 : Nat) : Int) := eH (n := 20000) (by omega) (by omega)
    have hb := hr _ _ hx
    have e6 : Fa4 x t = some (x.At - t) := by
      unfold Fa4
      rw [zM, Go.OB.wrap_i64 (by omega) (by omega)]
    simp only [zM, decide_eq_true (show (lo : Int) < (hi : Int) by omega), yF, e1, e2, e3, zI, e4, aAp, hx, e6, e5, wB]
    have q := aFo ha t hx
    by_cases c : (lo + hi) / 2 < kLt l t
    · rw [if_pos c, if_pos (by have := q.2 c; omega)]
    · rw [if_neg c, if_neg (by intro h; exact c (q.1 (by omega)))]
  · intro k
    simp only [zM, decide_eq_false (show ¬ ((kLt l t : Int) < (kLt l t : Int)) by omega), yE]
theorem latest_eq (s : Series) (t : Int) (ha : Asc s.Samples) (hl : s.Samples.length ≤ 20000) (hr : ∀ (i : Nat) (x : gZ), s.Samples[i]? = some x → 0 ≤ x.At ∧ x.At ≤ 1099511627776) (ht : 0 ≤ t ∧ t ≤ 1099511627776) :
    Fdr s t = some ((kLe s.Samples t : Int) - 1) := by
  unfold Fdr Fe7
  simp only [zM, bsearch_eq s.Samples t ha hl hr ht, zI]
  have hc1 := aBy (fun x : gZ => decide (x.At < t)) s.Samples
  have hc2 := aBy (fun x : gZ => decide (x.At ≤ t)) s.Samples
  change kLt s.Samples t ≤ _ at hc1
  change kLe s.Samples t ≤ _ at hc2
  have hw : ∀ n : Nat, n ≤ 20000 → IntKind.i64.wrap ((n : Int) - 1) = (n : Int) - 1 := fun n hn => Go.OB.wrap_i64 (by omega) (by omega)
  by_cases c : kLt s.Samples t < s.Samples.length
  · obtain ⟨x, hx⟩ : ∃ x, s.Samples[kLt s.Samples t]? = some x := ⟨_, List.getElem?_eq_getElem c⟩
    have hb := hr _ _ hx
    have q1 := aFo ha t hx
    have q2 := aFp ha t hx
    have e6 : Fa4 x t = some (x.At - t) := by
      unfold Fa4
      rw [zM, Go.OB.wrap_i64 (by omega) (by omega)]
    simp only [decide_eq_true (show (kLt s.Samples t : Int) < (s.Samples.length : Int) by omega), yF, aAp, hx, zI, e6]
    have nle : ∀ j y, s.Samples[j]? = some y → kLt s.Samples t < j → ¬ y.At ≤ t := by
      intro j y hy hj h
      have := ha _ _ _ _ hx hy hj
      have := q1
      omega
    by_cases e : x.At - t = 0
    · have hk : kLe s.Samples t = kLt s.Samples t + 1 := by
        have h1 := q2.1 (by omega)
        by_cases h2 : kLt s.Samples t + 1 < kLe s.Samples t
        · obtain ⟨y, hy⟩ : ∃ y, s.Samples[kLt s.Samples t + 1]? = some y := ⟨_, List.getElem?_eq_getElem (by omega)⟩
          exact absurd ((aFp ha t hy).2 h2) (nle _ _ hy (by omega))
        · omega
      simp only [decide_eq_true e, yF]
      rw [hk]; congr 1; omega
    · have hk : kLe s.Samples t = kLt s.Samples t := by
        have h1 : ¬ kLt s.Samples t < kLe s.Samples t := fun h => by have := q2.2 h; have : ¬ x.At < t := fun h => by have := q1.1 h; omega
                                                                     omega
        by_cases h2 : kLe s.Samples t < kLt s.Samples t
        · obtain ⟨y, hy⟩ : ∃ y, s.Samples[kLe s.Samples t]? = some y := ⟨_, List.getElem?_eq_getElem (by omega)⟩
          have := (aFo ha t hy).2 h2
          have := (aFp ha t hy).1 (by omega)
          omega
        · omega
      simp only [decide_eq_false e, yE]
      rw [hk, hw _ (by omega)]
  · simp only [decide_eq_false (show ¬ (kLt s.Samples t : Int) < (s.Samples.length : Int) by omega), yE, zI]
    have hk : kLe s.Samples t = kLt s.Samples t := by
      by_cases h2 : kLe s.Samples t < kLt s.Samples t
      · obtain ⟨y, hy⟩ : ∃ y, s.Samples[kLe s.Samples t]? = some y := ⟨_, List.getElem?_eq_getElem (by omega)⟩
        have := (aFo ha t hy).2 h2
        have := (aFp ha t hy).1 (by omega)
        omega
      · omega
    rw [hk, hw _ (by omega)]
def hld (s:Series)(t g:Int):gZ×Bool:=
  match kLe s.Samples t with
  | 0=>(gZ.mk 0 0 0,false)
  | n+1=>match s.Samples[n]? with
    | some x=>if (!decide (3≤x.Mark)) || decide (g<IntKind.i64.wrap (t - x.At)) then (gZ.mk 0 0 0,false) else (x,true)
    | none=>(gZ.mk 0 0 0,false)
theorem Held_eq (s:Series)(t g:Int)(ha:Asc s.Samples)(hl:s.Samples.length≤20000)(hr: ∀(i:Nat) (x:gZ),s.Samples[i]? =some x→0≤x.At∧x.At≤1099511627776)(ht:0≤t∧t≤1099511627776):
    Fd4 s t g=some (hld s t g):=by
  unfold Fd4 Ffk hld
  have hc:=aBy (fun x:gZ=>decide (x.At≤t)) s.Samples
  change kLe s.Samples t≤_ at hc
  rw [latest_eq s t ha hl hr ht]
  generalize kLe s.Samples t=n at *
  cases n with
  | zero=>rfl
  | succ n=>
    obtain ⟨x,hx⟩: ∃x,s.Samples[n]? =some x:=⟨_,List.getElem?_eq_getElem (by omega)⟩
    have e:(((n+1:Nat):Int) - 1)=(n:Int):=by omega
    simp only [zI,zM,e,decide_eq_false (show¬((n:Int)<0) by omega),yE,aAp,hx,Fe2]
    generalize decide (3≤x.Mark)=a
    generalize decide (g<IntKind.i64.wrap (t - x.At))=b
    cases a<;>cases b<;>rfl
end Go.Lf
namespace Go.Lf
open Go.RowKit Go.OB
def inT (n:Int)(t:Track):dB:=dB.mk (hld t.Series (64 * n+63) t.Long).1.N (hld t.Series (64 * n+63) t.Long).2
theorem apT (p:List dB)(x:dB)(h:p.length≤100000):app' 16 p [x]=some (p++ [x]):=by
 unfold app';rw [if_pos ⟨by rw [Go.OB.maxLen_eq]; simp; omega,by simp; omega⟩]
theorem time_eq {n:Int}(h0:0≤n)(h1:n≤4194303):IntKind.i64.wrap (IntKind.i64.wrap (IntKind.i64.wrap (64 * n)+64) - 1)=64 * n+63:=by
 rw [Go.OB.wrap_i64 (n:=64 * n) (by omega) (by omega),Go.OB.wrap_i64 (n:=64 * n+64) (by omega) (by omega),Go.OB.wrap_i64 (by omega) (by omega)];omega
structure TK (l:List Track):Prop where
  n:l.length≤100000
  d: ∀(i j:Nat) (x y:Track),l[i]? =some x→l[j]? =some y→i<j→x.Name≠y.Name
  s: ∀(i:Nat) (x:Track),l[i]? =some x→nD x.Series=0
theorem aMw {l:List Track}(h:TK l):l.length≤100000∧ ∀(i:Nat) (x:Track),l[i]? =some x→Asc x.Series.Samples∧x.Series.Samples.length≤20000∧ ∀(j:Nat) (y:gZ),x.Series.Samples[j]? =some y→0≤y.At∧y.At≤1099511627776:=⟨h.n,fun i x hx=>asc_of (h.s i x hx)⟩
theorem nY {α:Type}{l:List α}{i:Nat}{x:α}(hx:l[i]? =some x):l.take (i+1)=l.take i++ [x]:=by
 rw [List.take_add_one,hx]; rfl
theorem inputs_eq (l : List Track) (n : Int) (h : TK l) (h0 : 0 ≤ n) (h1 : n ≤ 4194303) : Fc5 l n = some (l.map (inT n)) := by
 obtain ⟨hl, hg⟩ := aMw h;unfold Fc5 Ff6;simp only [zM];rw [show (([] : List dB), (0 : Int)) = (fun (i : Nat) => ((l.take i).map (inT n), (i : Int))) 0 by simp];rw [bI (fun (i : Nat) => ((l.take i).map (inT n), (i : Int))) l (some (l.map (inT n))) (by omega) ?_ ?_];rfl;intro k i x hx hi;obtain ⟨g1, g2, g3⟩ := hg i x hx;simp only [time_eq h0 h1];rw [xE hi, yF, xQ hx, zI, Held_eq _ _ _ g1 g2 g3 (by omega), zI];rw [apT _ _ (by simp; omega), zI, eH hi (by omega), nY hx, List.map_append];rfl;intro k;rw [xH, yE, List.take_length]
end Go.Lf
