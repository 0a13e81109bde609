/- Walks: what each function computes, for every argument; no condition but those that stand in the statements. -/
import Derived.Test.YtckmiljbaejijaaGreatDoorKFa
import Derived.Test.YtckmiljbaejijaaGreatDoorNTa
import Derived.Test.YtckmiljbaejijaaGreatDoorLfQ
namespace Go.Lf
open Go.RowKit Go.OB
def okSample (x:Sample):Prop:=i64 x.At∧i64 x.N∧i64 x.Mark
def okSeries (x:Series):Prop:=i64 x.Den∧okL (fun x=>okSample x) x.Samples
def okTrack (x:fP):Prop:=okS x.Name∧okSeries x.Series∧i64 x.Long
theorem swithin (a b c:Int):Fav a b c=some (decide (b≤a) && decide (a≤c)):=by
  unfold Fav; simp only [yD,iteB_and,zW]
def smpE (l:List Sample)(i:Nat)(x:Sample):Int:=
  if !(decide (0≤x.At) && decide (x.At≤1099511627776)) || !(decide (-1125899906842624≤x.N) && decide (x.N≤1125899906842624)) || !(decide (0≤x.Mark) && decide (x.Mark≤4)) then 9
  else if decide (x.N≠0) && decide (x.Mark≤1) then 2
  else match i with
    | 0=>0
    | j+1=>match l[j]? with
      | some y=>if decide (x.At≤y.At) then 10 else 0
      | none=>0
def serF (l:List Sample)(fin:Option (Int×Int)):Option (Int×Int):=cO (fun i x=>if smpE l i x=0 then none else some (some ((i:Int),smpE l i x))) fin l 0
theorem prev_get {l:List Sample}{i:Nat}(hi:i<l.length)(hl:l.length≤9223372036854775807)(h0:0<i): ∃y,l[i - 1]? =some y∧at' l (IntKind.i64.wrap ((i:Int) - 1))=some y:=by
  have h1:i - 1<l.length:=by omega
  refine ⟨l[i - 1],List.getElem?_eq_getElem h1,?_⟩
  rw [Go.OB.wrap_i64 (by omega) (by omega),show (i:Int) - 1=((i - 1:Nat):Int) by omega]
  exact dL (List.getElem?_eq_getElem h1)
theorem check_L1 (s : Series) (hs : s.Samples.length ≤ 9223372036854775807) (k : Unit → Option (Int × Int)) : Fdh s k (s.Samples.length : Int) 0 = serF s.Samples (k ()) := by
  unfold Fdh serF
  refine wK s.Samples _ (k ()) hs ?_ ?_
  · intro kk i x hx hi
    simp only [yD, swithin, zW]
    rw [wG hi, yZ, dL hx, zW, dG hi hs]
    unfold smpE
    cases decide (0 ≤ x.At) <;> cases decide (x.At ≤ 1099511627776) <;> simp only [Bool.and_true, Bool.and_false, Bool.true_and, Bool.false_and, Bool.not_true, Bool.not_false, Bool.true_or, Bool.false_or, yZ, xC, zW, if_true, Bool.false_eq_true, if_false] <;> try rfl
    cases decide (-1125899906842624 ≤ x.N) <;> cases decide (x.N ≤ 1125899906842624) <;> simp only [Bool.and_true, Bool.and_false, Bool.true_and, Bool.false_and, Bool.not_true, Bool.not_false, Bool.true_or, Bool.false_or, yZ, xC, zW, if_true, Bool.false_eq_true, if_false] <;> try rfl
    cases decide (0 ≤ x.Mark) <;> cases decide (x.Mark ≤ 4) <;> simp only [Bool.and_true, Bool.and_false, Bool.true_and, Bool.false_and, Bool.not_true, Bool.not_false, Bool.true_or, Bool.false_or, yZ, xC, zW, if_true, Bool.false_eq_true, if_false] <;> try rfl
    cases decide (x.N ≠ 0) <;> cases decide (x.Mark ≤ 1) <;> simp only [Bool.and_true, Bool.and_false, Bool.true_and, Bool.false_and, Bool.not_true, Bool.not_false, Bool.true_or, Bool.false_or, yZ, xC, zW, if_true, Bool.false_eq_true, if_false] <;> try rfl
    all_goals
      cases i with
      | zero => rfl
      | succ j =>
        obtain ⟨y, h1, h2⟩ := prev_get hi hs (by omega)
        have h3 : decide (0 < ((j + 1 : Nat) : Int)) = true := decide_eq_true (by omega)
        rw [h2, h3]
        simp only [Nat.add_sub_cancel] at h1
        simp only [yZ, zW, h1]
        cases decide (x.At ≤ y.At) <;> rfl
  · intro kk; simp only [yD]; rw [wF]; rfl
def serE (s:Series):Option (Int×Int):=if !(decide (1≤s.Den) && decide (s.Den≤1000000)) then some (-1,9) else if decide (20000<(s.Samples.length:Int)) then some (-1,3) else serF s.Samples (some (-1,0))
theorem check_eq (s:Series)(hs:s.Samples.length≤9223372036854775807):Fcf s=serE s:=by
  unfold Fcf serE
  simp only [yD,zW,swithin,dF,check_L1 s hs,iteB_ite]
theorem findO_some {α β:Type}{q:Nat→α→Option (Option β)}{fin:Option β}(hf: ∃r,fin=some r)(hq: ∀i x r,q i x=some r→ ∃y,r=some y): ∀(l:List α) (i:Nat),∃r,cO q fin l i=some r
  | [],i=>hf
  | x :: l,i=>by
    rw [cO]
    cases h:q i x with
    | none=>exact findO_some hf hq l (i+1)
    | some r=>exact hq i x r h
theorem ite_some {β:Type}{p:Prop} [Decidable p] {y:β}{r:Option β}(h:(if p then none else some (some y))=some r): ∃z,r=some z:=by
  split at h
  · cases h
  · cases h; exact ⟨_,rfl⟩
theorem serE_some (s : Series) : ∃ r, serE s = some r := by
  unfold serE serF
  split
  · exact ⟨_, rfl⟩
  · split
    · exact ⟨_, rfl⟩
    · exact findO_some ⟨_, rfl⟩ (fun i x r h => ite_some h) _ _
def serC (s:Series):Int:=((serE s).getD (0,0)).2
theorem sCheck_eq (s:Series)(hs:s.Samples.length≤9223372036854775807):Fcj s=some (serC s):=by
  obtain ⟨r,hr⟩:=serE_some s
  unfold Fcj serC; rw [check_eq s hs,hr]; rfl
theorem idx_any {α:Type}(p:Nat→α→Bool): ∀(l:List α) (i:Nat),∃n,cO (fun i x=>if p i x=true then some (some (i:Int)) else none) (some (-1)) l i=some n∧decide (0≤n)=jB p l i
  | [],i=>⟨-1,rfl,rfl⟩
  | x :: l,i=>by
    rw [cO,jB]
    cases h:p i x with
    | true=>exact ⟨i,rfl,by simp⟩
    | false=>simpa using idx_any p l (i+1)
theorem contT_eq (l : List fP) (c : fP) (hl : l.length ≤ 9223372036854775807) : Fc1 l c = some (jB (fun _ y => decide (y.Name = c.Name)) l 0) := by
  obtain ⟨n, h1, h2⟩ := idx_any (fun (_ : Nat) (y : fP) => decide (y.Name = c.Name)) l 0
  have e : Fb6 l c = some n := by
    unfold Fb6
    simp only [yD, dF]
    unfold Fe5
    rw [← h1]
    refine wK l _ _ hl ?_ ?_
    · intro kk i x hx hi
      unfold Fd5
      simp only [yD, zW]
      rw [wG hi, yZ, dL hx, zW, dG hi hl]
      cases decide (x.Name = c.Name) <;> rfl
    · intro kk; simp only [yD]; rw [wF]; rfl
  unfold Fc1
  rw [e]
  simp only [yD, zW, h2]
def trkE (l:List fP)(i:Nat)(x:fP):Int:=
  if !isNm x.Name then 8 else if jB (fun _ y=>decide (y.Name=x.Name)) (l.take i) 0 then 5
  else if serC x.Series≠0 then serC x.Series else if !(decide (0≤x.Long) && decide (x.Long≤1099511627776)) then 9 else 0
def trkF (l:List fP):Option Int:=if decide (50<(l.length:Int)) then some 3 else cO (fun i x=>if trkE l i x=0 then none else some (some (trkE l i x))) (some 0) l 0
theorem okTrack_of {l:List fP}(h:okL okTrack l){i:Nat}{x:fP}(hx:l[i]? =some x):okS x.Name∧x.Series.Samples.length≤9223372036854775807:=by
  have:=h.2 x (List.mem_of_getElem? hx)
  exact ⟨this.1,this.2.1.2.1⟩
theorem CheckTracks_eq (l : List fP) (h : okL okTrack l) : Fcb l = trkF l := by
  unfold Fcb trkF
  simp only [yD, dF, iteB_ite]
  congr 1
  unfold Fe1
  refine wK l _ _ h.1 ?_ ?_
  · intro kk i x hx hi
    obtain ⟨o1, o2⟩ := okTrack_of h hx
    simp only [yD]
    rw [wG hi, yZ, dL hx, zW, isName_eq _ o1, zW, sub_nat l (by omega), dG hi h.1]
    simp only [zW, contT_eq (l.take i) x (by have := h.1; simp; omega), sCheck_eq _ o2, ewithin]
    unfold trkE
    cases isNm x.Name
    · rfl
    · cases jB (fun _ y => decide (y.Name = x.Name)) (l.take i) 0
      · simp only [Bool.not_true, xC, Bool.false_eq_true, if_false, wI, iteB_ite]
        by_cases hz : serC x.Series = 0
        · cases (decide (0 ≤ x.Long) && decide (x.Long ≤ 1099511627776)) <;> simp [hz]
        · simp [hz]
      · rfl
  · intro kk; simp only [yD]; rw [wF]; rfl
theorem trkF_some (l:List fP): ∃r,trkF l=some r:=by
  unfold trkF
  split
  · exact ⟨_,rfl⟩
  · exact findO_some ⟨_,rfl⟩ (fun i x r h=>ite_some h) _ _
def trkC (l:List fP):Int:=(trkF l).getD 0
theorem trkF_eq (l:List fP):trkF l=some (trkC l):=by obtain ⟨r,h⟩:=trkF_some l; unfold trkC; rw [h]; rfl
theorem findO_zero {α : Type} (e : Nat → α → Int) : ∀ (l : List α) (i : Nat), cO (fun i x => if e i x = 0 then none else some (some (e i x))) (some 0) l i = some 0 ↔ ∀ j x, l[j]? = some x → e (i + j) x = 0
  | [], i => by simp [cO]
  | x :: l, i => by
    rw [cO]
    by_cases h : e i x = 0
    · rw [if_pos h]
      refine (findO_zero e l (i + 1)).trans ?_
      constructor
      · intro q j y hy
        cases j with
        | zero => simp at hy; subst hy; simpa using h
        | succ j => have := q j y (by simpa using hy); rwa [show i + (j + 1) = i + 1 + j by omega]
      · intro q j y hy; have := q (j + 1) y (by simpa using hy); rwa [show i + (j + 1) = i + 1 + j by omega] at this
    · rw [if_neg h]
      constructor
      · intro q; exact absurd (Option.some.inj q) h
      · intro q; exact absurd (by simpa using q 0 x rfl) h
theorem trk_iff (l : List fP) : trkC l = 0 ↔ l.length ≤ 50 ∧ ∀ i x, l[i]? = some x → trkE l i x = 0 := by
  have e := trkF_eq l
  unfold trkF at e
  split at e
  · rename_i h
    simp only [decide_eq_true_eq] at h
    have := Option.some.inj e
    constructor
    · intro h0; omega
    · intro h0; omega
  · rename_i h
    simp only [decide_eq_true_eq] at h
    have f := findO_zero (trkE l) l 0
    simp only [Nat.zero_add] at f
    rw [e] at f
    constructor
    · intro h0; exact ⟨by omega, f.1 (by rw [h0])⟩
    · rintro ⟨_, h0⟩; exact Option.some.inj (f.2 h0)
theorem trkE_iff (l : List fP) (i : Nat) (x : fP) : trkE l i x = 0 ↔ isNm x.Name = true ∧ jB (fun _ y => decide (y.Name = x.Name)) (l.take i) 0 = false ∧ serC x.Series = 0 ∧ 0 ≤ x.Long ∧ x.Long ≤ 1099511627776 := by
  unfold trkE
  cases isNm x.Name
  · simp
  · cases jB (fun _ y => decide (y.Name = x.Name)) (l.take i) 0
    · by_cases hz : serC x.Series = 0
      · simp [hz]
      · simp [hz]
    · simp
theorem findO_one (e : Nat → Sample → Int) : ∀ (l : List Sample) (i : Nat) (r : Int × Int), cO (fun i x => if e i x = 0 then none else some (some ((i : Int), e i x))) (some (-1, 0)) l i = some r → (r.2 = 0 ↔ ∀ j x, l[j]? = some x → e (i + j) x = 0)
  | [], i, r, h => by cases h; simp
  | x :: l, i, r, h => by
    rw [cO] at h
    by_cases hz : e i x = 0
    · rw [if_pos hz] at h
      refine (findO_one e l (i + 1) r h).trans ?_
      constructor
      · intro q j y hy
        cases j with
        | zero => simp at hy; subst hy; simpa using hz
        | succ j => have := q j y (by simpa using hy); rwa [show i + (j + 1) = i + 1 + j by omega]
      · intro q j y hy; have := q (j + 1) y (by simpa using hy); rwa [show i + (j + 1) = i + 1 + j by omega] at this
    · rw [if_neg hz] at h
      have hr := Option.some.inj h
      subst hr
      constructor
      · intro q; exact absurd q hz
      · intro q; exact absurd (by simpa using q 0 x rfl) hz
theorem ser_iff (s : Series) : serC s = 0 ↔ (1 ≤ s.Den ∧ s.Den ≤ 1000000) ∧ s.Samples.length ≤ 20000 ∧ ∀ i x, s.Samples[i]? = some x → smpE s.Samples i x = 0 := by
  obtain ⟨r, hr⟩ := serE_some s
  have e : serC s = r.2 := by unfold serC; rw [hr]; rfl
  rw [e]
  unfold serE at hr
  split at hr
  · rename_i h
    cases hr
    simp only [Bool.not_eq_true', Bool.and_eq_false_iff, decide_eq_false_iff_not] at h
    constructor
    · intro h0; cases h0
    · rintro ⟨h1, _⟩; omega
  · rename_i h
    simp only [Bool.not_eq_true', Bool.and_eq_false_iff, decide_eq_false_iff_not] at h
    split at hr
    · rename_i h2
      simp only [decide_eq_true_eq] at h2
      cases hr
      constructor
      · intro h0; cases h0
      · rintro ⟨_, h1, _⟩; omega
    · rename_i h2
      simp only [decide_eq_true_eq] at h2
      have := findO_one (smpE s.Samples) s.Samples 0 r hr
      simp only [Nat.zero_add] at this
      rw [this]
      constructor
      · intro q; exact ⟨by omega, by omega, q⟩
      · intro q; exact q.2.2
theorem names_ne {l:List fP}(h:trkC l=0){i j:Nat}{x y:fP}(hx:l[i]? =some x)(hy:l[j]? =some y)(hij:i<j):x.Name≠y.Name:=by
  have:=((trkE_iff l j y).1 (((trk_iff l).1 h).2 j y hy)).2.1
  intro e
  have t:jB (fun _ z=>decide (z.Name=y.Name)) (l.take j) 0=true:=(anyI_iff _ _ _).2 ⟨i,x,by rw [List.getElem?_take,if_pos hij]; exact hx,by simpa using e⟩
  rw [this] at t; cases t
theorem names_pw {l:List fP}(h:trkC l=0):l.Pairwise fun a b=>a.Name≠b.Name:=by
  rw [List.pairwise_iff_getElem]
  intro i j hi hj hij
  exact names_ne h (List.getElem?_eq_getElem hi) (List.getElem?_eq_getElem hj) hij
end Go.Lf
namespace Go.Lf
open Go.RowKit Go.OB
def Asc (l:List Sample):Prop:= ∀(i j:Nat) x y,l[i]? =some x→l[j]? =some y→i<j→x.At<y.At
theorem asc_of {s : Series} (h : serC s = 0) : Asc s.Samples ∧ s.Samples.length ≤ 20000 ∧ ∀ (i : Nat) (x : Sample), s.Samples[i]? = some x → 0 ≤ x.At ∧ x.At ≤ 1099511627776 := by
  obtain ⟨-, hl, hx⟩ := (ser_iff s).1 h
  have step : ∀ i x y, s.Samples[i]? = some x → s.Samples[i + 1]? = some y → x.At < y.At := by
    intro i x y h1 h2
    have q := hx (i + 1) y h2
    unfold smpE at q
    split at q
    · exact absurd q (by decide)
    · split at q
      · exact absurd q (by decide)
      · simp only [h1] at q
        by_cases c : y.At ≤ x.At
        · simp [c] at q
        · omega
  refine ⟨?_, hl, fun i x h1 => ?_⟩
  · intro i j x y h1 h2 hij
    obtain ⟨d, rfl⟩ : ∃ d, j = i + 1 + d := ⟨j - (i + 1), by omega⟩
    clear hij
    induction d generalizing y with
    | zero => exact step i x y h1 h2
    | succ d ih =>
      have hlt := (List.getElem?_eq_some_iff.1 h2).1
      obtain ⟨z, hz⟩ : ∃ z, s.Samples[i + 1 + d]? = some z := ⟨_, List.getElem?_eq_getElem (by omega)⟩
      have := ih z hz
      have := step (i + 1 + d) z y hz h2
      omega
  · have q := hx i x h1
    unfold smpE at q
    split at q
    · exact absurd q (by decide)
    · rename_i c
      simp only [Bool.or_eq_true, Bool.not_eq_true', Bool.and_eq_false_iff, decide_eq_false_iff_not, not_or, Decidable.not_not, not_and] at c
      by_cases c1 : 0 ≤ x.At
      · by_cases c2 : x.At ≤ 1099511627776
        · exact ⟨c1, c2⟩
        · simp [c2] at c
      · simp [c1] at c
end Go.Lf
namespace Go.Lf
open Go.RowKit Go.OB
theorem good_trk {l:List fP}(h:trkC l=0):l.length≤50∧ ∀(i:Nat) (x:fP),l[i]? =some x→Asc x.Series.Samples∧x.Series.Samples.length≤20000∧ ∀(j:Nat) (y:Sample),x.Series.Samples[j]? =some y→0≤y.At∧y.At≤1099511627776:=by
  obtain ⟨h1,h2⟩:=(trk_iff l).1 h
  exact ⟨h1,fun i x hx=>asc_of ((trkE_iff l i x).1 (h2 i x hx)).2.2.1⟩
theorem tk_snoc {α:Type}{l:List α}{i:Nat}{x:α}(hx:l[i]? =some x):l.take (i+1)=l.take i++ [x]:=by
  rw [List.take_add_one,hx]; rfl
end Go.Lf
