/- Walks: what each function computes, for every argument; no condition but those that stand in the statements. -/
import Derived.Test.YthllgjnlmjpinaaGreatDoorUP
import Derived.Test.YthllgjnlmjpinaaGreatDoorLfQ
import Derived.Test.YthllgjnlmjpinaaGreatDoorPl
namespace Go.Lf
open Go.OB
def aFl (x:fB):Prop:=i64 x.At∧i64 x.N∧i64 x.Mark
def aMu (x:Series):Prop:=i64 x.Den∧okL (fun x=>aFl x) x.Samples
def aAc (x:Track):Prop:=okS x.Name∧aMu x.Series∧i64 x.Long
def nP (x:Flight):Prop:=okS x.Tail∧okS x.Route∧i64 x.Day∧i64 x.From∧i64 x.To∧okL (fun x=>aAc x) x.Tracks
def aIa (x:dU):Prop:=okS x.Track∧i64 x.N
end Go.Lf
namespace Go.Lf
def kws:List Str:=[[112,104,97,115,101],[109,111,118,101],[114,117,108,101],[105,102],[111,114],[97,110,100],[116,114,117,101],[102,97,108,115,101],[115,116,101,97,100,121],[110,111,116],[102,111,114],[119,105,116,104,105,110],[99,111,117,110,116],[111,102],[114,105,115,101,115],[115,105,110,99,101]]
theorem aBb (a b c:Int):Fae a b c=some (decide (b≤a) && decide (a≤c)):=by
  unfold Fae; simp only [zV,qE,zL]
theorem uF (a b c:Int):Fah a b c=some (decide (b≤a) && decide (a≤c)):=by
  unfold Fah; simp only [zV,qE,zL]
theorem aQs (a b c:Int):Fat a b c=some (decide (b≤a) && decide (a≤c)):=by
  unfold Fat; simp only [zV,qE,zL]
def isW (s:Str):Bool:=decide (s ∈ kws)
theorem isWord_eq (s:Str):Fcb s=some (isW s):=by
  unfold Fcb isW kws
  simp only [zV,aCr,zL,iteB_id,List.mem_cons,List.not_mem_nil,or_false,Bool.decide_or]
def nmB (c:Int):Bool:=(decide (97≤c) && decide (c≤122)) || (decide (48≤c) && decide (c≤57)) || decide (c=45)
theorem aJz (c:Int):Fb9 c=some (nmB c):=by
  unfold Fb9 nmB
  simp only [zV,zL]
  cases decide (97≤c)<;>cases decide (c≤122)<;>cases decide (48≤c)<;>cases decide (c≤57)<;>cases decide (c=45)<;>rfl
def badB:Nat→UInt8→Bool:=fun _ c=> !nmB (c.toNat:Int)
theorem isName_L1 (s : Str) (hs : okS s) (k : Unit → Option Bool) : Fed s k (s.length : Int) 0 = if aX badB s 0 = true then some false else k () := by
  unfold Fed
  rw [xY s (fun i c => if badB i c = true then some (some false) else none) (k ()) hs]
  · exact aGq badB (some false) (k ()) s 0
  · intro kk i c hc hi
    unfold badB
    simp only [zV]
    rw [xN hi, yN, aMq hc, zL, aJz, zL]
    cases nmB (c.toNat : Int)
    · rfl
    · simp only [Bool.not_true, yM]; rw [eG hi hs]; rfl
  · intro kk; simp only [zV]; rw [xQ]; rfl
def aQq (s:Str):Bool:=match s with
  | []=>false
  | c :: _=>decide (97≤(c.toNat:Int)) && decide ((c.toNat:Int)≤122)
def mQ (s:Str):Bool:=decide (s.length≤30) && aQq s && !isW s && !aX badB s 0
theorem aH (s:Str)(hs:okS s):Fai s=some (mQ s):=by
  unfold Fai mQ
  simp only [zV,zL,aBb,wK,isName_L1 s hs,isWord_eq]
  cases s with
  | nil=>rfl
  | cons c l=>
    have h0:byte' (c :: l) 0=some (c.toNat:Int):=aMq (i:=0) rfl
    have h1:decide ((1:Int)≤((c :: l).length:Int))=true:=decide_eq_true (by simp; omega)
    have h2:decide (((c :: l).length:Int)≤30)=decide ((c :: l).length≤30):=decide_eq_decide.2 (by omega)
    have h3:decide ((c.toNat:Int)<97)= !decide (97≤(c.toNat:Int)):=by rw [← decide_not]; exact decide_eq_decide.2 (by omega)
    have h4:decide (122<(c.toNat:Int))= !decide ((c.toNat:Int)≤122):=by rw [← decide_not]; exact decide_eq_decide.2 (by omega)
    rw [h0,h1,h2]
    simp only [zL,Bool.true_and,h3,h4,aQq]
    cases decide ((c :: l).length≤30)<;>cases decide (97≤(c.toNat:Int))<;>cases decide ((c.toNat:Int)≤122)<;>cases isW (c :: l)<;>cases aX badB (c :: l) 0<;>rfl
theorem tY (s:Str)(hs:okS s):Faq s=some (mQ s):=by
  unfold Faq; rw [aH s hs]; rfl
end Go.Lf
namespace Go.Lf
def aHw (l:List fB)(i:Nat)(x:fB):Int:=
  if !(decide (0≤x.At) && decide (x.At≤1099511627776)) || !(decide (-1125899906842624≤x.N) && decide (x.N≤1125899906842624)) || !(decide (0≤x.Mark) && decide (x.Mark≤4)) then 9
  else if decide (x.N≠0) && decide (x.Mark≤1) then 2
  else match i with
    | 0=>0
    | j+1=>match l[j]? with
      | some y=>if decide (x.At≤y.At) then 10 else 0
      | none=>0
def serF (l:List fB)(fin:Option (Int×Int)):Option (Int×Int):=eH (fun i x=>if aHw l i x=0 then none else some (some ((i:Int),aHw l i x))) fin l 0
theorem prev_get {l:List fB}{i:Nat}(hi:i<l.length)(hl:l.length≤9223372036854775807)(h0:0<i): ∃y,l[i - 1]? =some y∧at' l (IntKind.i64.wrap ((i:Int) - 1))=some y:=by
  have h1:i - 1<l.length:=by omega
  refine ⟨l[i - 1],List.getElem?_eq_getElem h1,?_⟩
  rw [Go.OB.wrap_i64 (by omega) (by omega),show (i:Int) - 1=((i - 1:Nat):Int) by omega]
  exact xZ (List.getElem?_eq_getElem h1)
theorem check_L1 (s : Series) (hs : s.Samples.length ≤ 9223372036854775807) (k : Unit → Option (Int × Int)) : Fdr s k (s.Samples.length : Int) 0 = serF s.Samples (k ()) := by
  unfold Fdr serF
  refine xY s.Samples _ (k ()) hs ?_ ?_
  · intro kk i x hx hi
    simp only [zV, aQs, zL]
    rw [xN hi, yN, xZ hx, zL, eG hi hs]
    unfold aHw
    cases decide (0 ≤ x.At) <;> cases decide (x.At ≤ 1099511627776) <;> simp only [Bool.and_true, Bool.and_false, Bool.true_and, Bool.false_and, Bool.not_true, Bool.not_false, Bool.true_or, Bool.false_or, yN, yM, zL, if_true, Bool.false_eq_true, if_false] <;> try rfl
    cases decide (-1125899906842624 ≤ x.N) <;> cases decide (x.N ≤ 1125899906842624) <;> simp only [Bool.and_true, Bool.and_false, Bool.true_and, Bool.false_and, Bool.not_true, Bool.not_false, Bool.true_or, Bool.false_or, yN, yM, zL, if_true, Bool.false_eq_true, if_false] <;> try rfl
    cases decide (0 ≤ x.Mark) <;> cases decide (x.Mark ≤ 4) <;> simp only [Bool.and_true, Bool.and_false, Bool.true_and, Bool.false_and, Bool.not_true, Bool.not_false, Bool.true_or, Bool.false_or, yN, yM, zL, if_true, Bool.false_eq_true, if_false] <;> try rfl
    cases decide (x.N ≠ 0) <;> cases decide (x.Mark ≤ 1) <;> simp only [Bool.and_true, Bool.and_false, Bool.true_and, Bool.false_and, Bool.not_true, Bool.not_false, Bool.true_or, Bool.false_or, yN, yM, zL, if_true, Bool.false_eq_true, if_false] <;> try rfl
    all_goals
      cases i with
      | zero => rfl
      | succ j =>
        obtain ⟨y, h1, h2⟩ := prev_get hi hs (by omega)
        have h3 : decide (0 < ((j + 1 : Nat) : Int)) = true := decide_eq_true (by omega)
        rw [h2, h3]
        simp only [Nat.add_sub_cancel] at h1
        simp only [yN, zL, h1]
        cases decide (x.At ≤ y.At) <;> rfl
  · intro kk; simp only [zV]; rw [xQ]; rfl
def serE (s:Series):Option (Int×Int):=if !(decide (1≤s.Den) && decide (s.Den≤1000000)) then some (-1,9) else if decide (20000<(s.Samples.length:Int)) then some (-1,3) else serF s.Samples (some (-1,0))
theorem check_eq (s:Series)(hs:s.Samples.length≤9223372036854775807):Fcs s=serE s:=by
  unfold Fcs serE
  simp only [zV,zL,aQs,wK,check_L1 s hs,bT]
theorem nM {α β:Type}{q:Nat→α→Option (Option β)}{fin:Option β}(hf: ∃r,fin=some r)(hq: ∀i x r,q i x=some r→ ∃y,r=some y): ∀(l:List α) (i:Nat),∃r,eH q fin l i=some r
  | [],i=>hf
  | x :: l,i=>by
    rw [eH]
    cases h:q i x with
    | none=>exact nM hf hq l (i+1)
    | some r=>exact hq i x r h
theorem aAo {β:Type}{p:Prop} [Decidable p] {y:β}{r:Option β}(h:(if p then none else some (some y))=some r): ∃z,r=some z:=by
  split at h
  · cases h
  · cases h; exact ⟨_,rfl⟩
theorem aGz (s : Series) : ∃ r, serE s = some r := by
  unfold serE serF
  split
  · exact ⟨_, rfl⟩
  · split
    · exact ⟨_, rfl⟩
    · exact nM ⟨_, rfl⟩ (fun i x r h => aAo h) _ _
def sD (s:Series):Int:=((serE s).getD (0,0)).2
theorem sCheck_eq (s:Series)(hs:s.Samples.length≤9223372036854775807):Fbt s=some (sD s):=by
  obtain ⟨r,hr⟩:=aGz s
  unfold Fbt sD; rw [check_eq s hs,hr]; rfl
end Go.Lf
namespace Go.Lf
theorem uC {α:Type}(p:Nat→α→Bool): ∀(l:List α) (i:Nat),∃n,eH (fun i x=>if p i x=true then some (some (i:Int)) else none) (some (-1)) l i=some n∧decide (0≤n)=aX p l i
  | [],i=>⟨-1,rfl,rfl⟩
  | x :: l,i=>by
    rw [eH,aX]
    cases h:p i x with
    | true=>exact ⟨i,rfl,by simp⟩
    | false=>simpa using uC p l (i+1)
theorem contT_eq (l : List Track) (c : Track) (hl : l.length ≤ 9223372036854775807) : Fdf l c = some (aX (fun _ y => decide (y.Name = c.Name)) l 0) := by
  obtain ⟨n, h1, h2⟩ := uC (fun (_ : Nat) (y : Track) => decide (y.Name = c.Name)) l 0
  have e : Fbs l c = some n := by
    unfold Fbs
    simp only [zV, wK]
    unfold Ffi
    rw [← h1]
    refine xY l _ _ hl ?_ ?_
    · intro kk i x hx hi
      unfold Fdx
      simp only [zV, zL]
      rw [xN hi, yN, xZ hx, zL, eG hi hl]
      cases decide (x.Name = c.Name) <;> rfl
    · intro kk; simp only [zV]; rw [xQ]; rfl
  unfold Fdf
  rw [e]
  simp only [zV, zL, h2]
def aOa (l:List Track)(i:Nat)(x:Track):Int:=
  if !mQ x.Name then 8 else if aX (fun _ y=>decide (y.Name=x.Name)) (l.take i) 0 then 5
  else if sD x.Series≠0 then sD x.Series else if !(decide (0≤x.Long) && decide (x.Long≤1099511627776)) then 9 else 0
def aOd (l:List Track):Option Int:=if decide (50<(l.length:Int)) then some 3 else eH (fun i x=>if aOa l i x=0 then none else some (some (aOa l i x))) (some 0) l 0
theorem aNx {l:List Track}(h:okL aAc l){i:Nat}{x:Track}(hx:l[i]? =some x):okS x.Name∧x.Series.Samples.length≤9223372036854775807:=by
  have:=h.2 x (List.mem_of_getElem? hx)
  exact ⟨this.1,this.2.1.2.1⟩
theorem aEk (l : List Track) (h : okL aAc l) : Fcl l = aOd l := by
  unfold Fcl aOd
  simp only [zV, wK, bT]
  congr 1
  unfold Ffh
  refine xY l _ _ h.1 ?_ ?_
  · intro kk i x hx hi
    obtain ⟨o1, o2⟩ := aNx h hx
    simp only [zV]
    rw [xN hi, yN, xZ hx, zL, aH _ o1, zL, aCt l (by omega), eG hi h.1]
    simp only [zL, contT_eq (l.take i) x (by have := h.1; simp; omega), sCheck_eq _ o2, aBb]
    unfold aOa
    cases mQ x.Name
    · rfl
    · cases aX (fun _ y => decide (y.Name = x.Name)) (l.take i) 0
      · simp only [Bool.not_true, yM, Bool.false_eq_true, if_false, wI, bT]
        by_cases hz : sD x.Series = 0
        · cases (decide (0 ≤ x.Long) && decide (x.Long ≤ 1099511627776)) <;> simp [hz]
        · simp [hz]
      · rfl
  · intro kk; simp only [zV]; rw [xQ]; rfl
theorem trkF_some (l:List Track): ∃r,aOd l=some r:=by
  unfold aOd
  split
  · exact ⟨_,rfl⟩
  · exact nM ⟨_,rfl⟩ (fun i x r h=>aAo h) _ _
end Go.Lf
namespace Go.Lf
def aCm (l:List Track):Int:=(aOd l).getD 0
theorem aQp (l:List Track):aOd l=some (aCm l):=by obtain ⟨r,h⟩:=trkF_some l; unfold aCm; rw [h]; rfl
def vW (f:Flight):Int:=
  if (decide (f.Tail≠ []) && !mQ f.Tail) || !mQ f.Route then 8
  else if !(decide (0≤f.Day) && decide (f.Day≤1000000)) || decide (f.From<0) || decide (f.To<f.From) || decide (4194304≤f.To) then 9
  else if decide (20000<IntKind.i64.wrap (IntKind.i64.wrap (f.To - f.From)+1)) || decide (30<(f.Tracks.length:Int)) then 3
  else aCm f.Tracks
theorem aEe (f:Flight)(h:nP f):Fdg f=some (vW f):=by
  unfold Fdg vW
  simp only [zV,tY _ h.1,tY _ h.2.1,uF,aEk _ h.2.2.2.2.2,aQp,zL,mP]
  cases decide (f.Tail≠ [])<;>cases mQ f.Tail<;>cases mQ f.Route<;>simp only [yN,yM,zL,Bool.not_true,Bool.not_false,Bool.and_true,Bool.and_false,Bool.or_true,Bool.or_false,if_true,Bool.false_eq_true,if_false,bT,Bool.or_assoc]<;>(repeat' split)<;>rfl
structure Good (f:Flight):Prop where
  tail:f.Tail= []∨mQ f.Tail=true
  route:mQ f.Route=true
  day:0≤f.Day∧f.Day≤1000000
  frm:0≤f.From∧f.From≤f.To∧f.To<4194304
  span:f.To - f.From+1≤20000
  many:f.Tracks.length≤30
  trk:aCm f.Tracks=0
theorem good_of {f : Flight} (h : vW f = 0) : Good f := by
  unfold vW at h
  split at h
  · cases h
  · split at h
    · cases h
    · split at h
      · cases h
      · rename_i h1 h2 h3
        simp only [Bool.or_eq_true, Bool.and_eq_true, Bool.not_eq_true', decide_eq_true_eq, not_or, not_and, Bool.not_eq_false, Bool.and_eq_false_iff, decide_eq_false_iff_not] at h1 h2 h3
        obtain ⟨⟨⟨h4, h5⟩, h6⟩, h7⟩ := h2
        have h5 : 0 ≤ f.From := by omega
        have w1 : IntKind.i64.wrap (f.To - f.From) = f.To - f.From := Go.OB.wrap_i64 (by omega) (by omega)
        rw [w1, Go.OB.wrap_i64 (by omega) (by omega)] at h3
        refine ⟨?_, h1.2, ⟨by omega, by omega⟩, ⟨by omega, by omega, by omega⟩, by omega, by omega, h⟩
        by_cases ht : f.Tail = []
        · exact .inl ht
        · exact .inr (h1.1 ht)
end Go.Lf
namespace Go.Lf
theorem aDw {α : Type} (e : Nat → α → Int) : ∀ (l : List α) (i : Nat), eH (fun i x => if e i x = 0 then none else some (some (e i x))) (some 0) l i = some 0 ↔ ∀ j x, l[j]? = some x → e (i + j) x = 0
  | [], i => by simp [eH]
  | x :: l, i => by
    rw [eH]
    by_cases h : e i x = 0
    · rw [if_pos h]
      refine (aDw e l (i + 1)).trans ?_
      constructor
      · intro q j y hy
        cases j with
        | zero => simp at hy; subst hy; simpa using h
        | succ j => have := q j y (by simpa using hy); rwa [show i + (j + 1) = i + 1 + j by omega]
      · intro q j y hy; have := q (j + 1) y (by simpa using hy); rwa [show i + (j + 1) = i + 1 + j by omega] at this
    · rw [if_neg h]
      constructor
      · intro q; exact absurd (Option.some.inj q) h
      · intro q; exact absurd (by simpa using q 0 x rfl) h
theorem aDe (l : List Track) : aCm l = 0 ↔ l.length ≤ 50 ∧ ∀ i x, l[i]? = some x → aOa l i x = 0 := by
  have e := aQp l
  unfold aOd at e
  split at e
  · rename_i h
    simp only [decide_eq_true_eq] at h
    have := Option.some.inj e
    constructor
    · intro h0; omega
    · intro h0; omega
  · rename_i h
    simp only [decide_eq_true_eq] at h
    have f := aDw (aOa l) l 0
    simp only [Nat.zero_add] at f
    rw [e] at f
    constructor
    · intro h0; exact ⟨by omega, f.1 (by rw [h0])⟩
    · rintro ⟨_, h0⟩; exact Option.some.inj (f.2 h0)
theorem sV (l : List Track) (i : Nat) (x : Track) : aOa l i x = 0 ↔ mQ x.Name = true ∧ aX (fun _ y => decide (y.Name = x.Name)) (l.take i) 0 = false ∧ sD x.Series = 0 ∧ 0 ≤ x.Long ∧ x.Long ≤ 1099511627776 := by
  unfold aOa
  cases mQ x.Name
  · simp
  · cases aX (fun _ y => decide (y.Name = x.Name)) (l.take i) 0
    · by_cases hz : sD x.Series = 0
      · simp [hz]
      · simp [hz]
    · simp
theorem aHq (e : Nat → fB → Int) : ∀ (l : List fB) (i : Nat) (r : Int × Int), eH (fun i x => if e i x = 0 then none else some (some ((i : Int), e i x))) (some (-1, 0)) l i = some r → (r.2 = 0 ↔ ∀ j x, l[j]? = some x → e (i + j) x = 0)
  | [], i, r, h => by cases h; simp
  | x :: l, i, r, h => by
    rw [eH] at h
    by_cases hz : e i x = 0
    · rw [if_pos hz] at h
      refine (aHq e l (i + 1) r h).trans ?_
      constructor
      · intro q j y hy
        cases j with
        | zero => simp at hy; subst hy; simpa using hz
        | succ j => have := q j y (by simpa using hy); rwa [show i + (j + 1) = i + 1 + j by omega]
      · intro q j y hy; have := q (j + 1) y (by simpa using hy); rwa [show i + (j + 1) = i + 1 + j by omega] at this
    · rw [if_neg hz] at h
      have hr := Option.some.inj h
      subst hr
      constructor
      · intro q; exact absurd q hz
      · intro q; exact absurd (by simpa using q 0 x rfl) hz
theorem aIx (s : Series) : sD s = 0 ↔ (1 ≤ s.Den ∧ s.Den ≤ 1000000) ∧ s.Samples.length ≤ 20000 ∧ ∀ i x, s.Samples[i]? = some x → aHw s.Samples i x = 0 := by
  obtain ⟨r, hr⟩ := aGz s
  have e : sD s = r.2 := by unfold sD; rw [hr]; rfl
  rw [e]
  unfold serE at hr
  split at hr
  · rename_i h
    cases hr
    simp only [Bool.not_eq_true', Bool.and_eq_false_iff, decide_eq_false_iff_not] at h
    constructor
    · intro h0; cases h0
    · rintro ⟨h1, _⟩; omega
  · rename_i h
    simp only [Bool.not_eq_true', Bool.and_eq_false_iff, decide_eq_false_iff_not] at h
    split at hr
    · rename_i h2
      simp only [decide_eq_true_eq] at h2
      cases hr
      constructor
      · intro h0; cases h0
      · rintro ⟨_, h1, _⟩; omega
    · rename_i h2
      simp only [decide_eq_true_eq] at h2
      have := aHq (aHw s.Samples) s.Samples 0 r hr
      simp only [Nat.zero_add] at this
      rw [this]
      constructor
      · intro q; exact ⟨by omega, by omega, q⟩
      · intro q; exact q.2.2
theorem names_ne {l:List Track}(h:aCm l=0){i j:Nat}{x y:Track}(hx:l[i]? =some x)(hy:l[j]? =some y)(hij:i<j):x.Name≠y.Name:=by
  have:=((sV l j y).1 (((aDe l).1 h).2 j y hy)).2.1
  intro e
  have t:aX (fun _ z=>decide (z.Name=y.Name)) (l.take j) 0=true:=(pY _ _ _).2 ⟨i,x,by rw [List.getElem?_take,if_pos hij]; exact hx,by simpa using e⟩
  rw [this] at t; cases t
theorem names_pw {l:List Track}(h:aCm l=0):l.Pairwise fun a b=>a.Name≠b.Name:=by
  rw [List.pairwise_iff_getElem]
  intro i j hi hj hij
  exact names_ne h (List.getElem?_eq_getElem hi) (List.getElem?_eq_getElem hj) hij
end Go.Lf
namespace Go.Lf
def aBy (x:Mask):Prop:=True∧i64 x.Days∧okL (fun x=>okS x) x.Hide∧okL (fun x=>aIa x) x.Grains∧i64 x.Least
def namE (l:List Str)(i:Nat)(x:Str):Int:=if !mQ x then 8 else if aX (fun _ y=>decide (x=y)) (l.take i) 0 then 5 else 0
def namF (l:List Str)(fin:Option Int):Option Int:=eH (fun i x=>if namE l i x=0 then none else some (some (namE l i x))) fin l 0
theorem aKe (l : List Str) (c : Str) (hl : l.length ≤ 9223372036854775807) : Faf l c = some (aX (fun _ y => decide (c = y)) l 0) := by
  obtain ⟨n, h1, h2⟩ := uC (fun (_ : Nat) (y : Str) => decide (c = y)) l 0
  have e : Fac l c = some n := by
    unfold Fac
    simp only [zV, wK]
    unfold Fc7
    rw [← h1]
    refine xY l _ _ hl ?_ ?_
    · intro kk i x hx hi
      simp only [zV]
      rw [xN hi, yN, xZ hx, zL, eG hi hl]
      cases decide (c = x) <;> rfl
    · intro kk; simp only [zV]; rw [xQ]; rfl
  unfold Faf
  rw [e]
  simp only [zV, zL, h2]
theorem aGb (l : List Str) (h : okL okS l) : Fcp l = if decide (30 < (l.length : Int)) = true then some 3 else namF l (some 0) := by
  unfold Fcp namF
  simp only [zV, wK, bT]
  congr 1
  unfold Ffj
  refine xY l _ _ h.1 ?_ ?_
  · intro kk i x hx hi
    have o1 := h.2 x (List.mem_of_getElem? hx)
    simp only [zV]
    rw [xN hi, yN, xZ hx, zL, tY _ o1, zL, aCt l (by omega), eG hi h.1]
    simp only [zL, aKe (l.take i) x (by have := h.1; simp; omega)]
    unfold namE
    cases mQ x
    · rfl
    · cases aX (fun _ y => decide (x = y)) (l.take i) 0 <;> rfl
  · intro kk; simp only [zV]; rw [xQ]; rfl
theorem contG_eq (l : List dU) (c : dU) (hl : l.length ≤ 9223372036854775807) : Fcf l c = some (aX (fun _ y => decide (y.Track = c.Track)) l 0) := by
  obtain ⟨n, h1, h2⟩ := uC (fun (_ : Nat) (y : dU) => decide (y.Track = c.Track)) l 0
  have e : Fcj l c = some n := by
    unfold Fcj
    simp only [zV, wK]
    unfold Ffq
    rw [← h1]
    refine xY l _ _ hl ?_ ?_
    · intro kk i x hx hi
      unfold Fej
      simp only [zV, zL]
      rw [xN hi, yN, xZ hx, zL, eG hi hl]
      cases decide (x.Track = c.Track) <;> rfl
    · intro kk; simp only [zV]; rw [xQ]; rfl
  unfold Fcf
  rw [e]
  simp only [zV, zL, h2]
def graE (l:List dU)(i:Nat)(x:dU):Int:=
  if !mQ x.Track then 8 else if aX (fun _ y=>decide (y.Track=x.Track)) (l.take i) 0 then 5 else if !(decide (1≤x.N) && decide (x.N≤1125899906842624)) then 9 else 0
def graF (l:List dU)(fin:Option Int):Option Int:=eH (fun i x=>if graE l i x=0 then none else some (some (graE l i x))) fin l 0
def lstE (m:Mask):Option Int:=if !(decide (1≤m.Least) && decide (m.Least≤1000)) then some 9 else some 0
def mskG (m:Mask):Option Int:=if decide (30<(m.Grains.length:Int))=true then some 3 else graF m.Grains (lstE m)
def aIp (m:Mask):Option Int:=
  if !(decide (1≤m.Days) && decide (m.Days≤1000000)) then some 9 else if decide (30<(m.Hide.length:Int))=true then some 3 else namF m.Hide (mskG m)
theorem aGo (e:Nat→Str→Int): ∀(l:List Str) (i:Nat) (fin:Option Int),eH (fun i x=>if e i x=0 then none else some (some (e i x))) fin l i=
    gB (eH (fun i x=>if e i x=0 then none else some (some (e i x))) (some 0) l i) fun r=>if r=0 then fin else some r
  | [],i,fin=>by simp [eH,zL]
  | x :: l,i,fin=>by
    rw [eH,eH]
    by_cases h:e i x=0
    · simp only [h,if_true]; exact aGo e l (i+1) fin
    · simp only [h,if_false,zL]
theorem aAd (m : Mask) (h : aBy m) : Fcc m = aIp m := by
  unfold Fcc aIp
  simp only [zV, wK, uF, zL, aGb _ h.2.2.1]
  have g : Fep m (fun _ => gU (!(decide (1 ≤ m.Least) && decide (m.Least ≤ 1000))) (some 9) (some 0)) (m.Grains.length : Int) 0 = graF m.Grains (lstE m) := by
    unfold Fep graF
    refine xY m.Grains _ _ h.2.2.2.1.1 ?_ ?_
    · intro kk i x hx hi
      have o1 := (h.2.2.2.1.2 x (List.mem_of_getElem? hx)).1
      simp only [zV]
      rw [xN hi, yN, xZ hx, zL, tY _ o1, zL, aCt m.Grains (by omega), eG hi h.2.2.2.1.1]
      simp only [zL, contG_eq (m.Grains.take i) x (by have := h.2.2.2.1.1; simp; omega), uF]
      unfold graE
      cases mQ x.Track
      · rfl
      · cases aX (fun _ y => decide (y.Track = x.Track)) (m.Grains.take i) 0
        · cases (decide (1 ≤ x.N) && decide (x.N ≤ 1125899906842624)) <;> rfl
        · rfl
    · intro kk; simp only [zV]; rw [xQ, yM]; unfold lstE; rw [bT]
  rw [g]
  simp only [bT]
  congr 1
  by_cases c : decide (30 < (m.Hide.length : Int)) = true
  · rw [if_pos c, if_pos c]; simp [zL]
  · rw [if_neg c, if_neg c]
    unfold namF
    rw [aGo _ _ _ (mskG m)]
    congr 1
    funext r
    by_cases hr : r = 0
    · simp [hr, mskG]
    · simp [hr]
end Go.Lf
namespace Go.Lf
def co (n N:Int):Int:=max (N - N % n) (-1125899906842624)
theorem tm_neg (N n : Int) (hn : 1 ≤ n) : (if N.tmod n < 0 then N.tmod n + n else N.tmod n) = N % n := by
  have h1 := Int.emod_nonneg N (b := n) (by omega)
  have h2 := Int.emod_lt_of_pos N (b := n) (by omega)
  rw [Int.tmod_eq_emod]
  have e : (n.natAbs : Int) = n := Int.natAbs_of_nonneg (by omega)
  by_cases h : 0 ≤ N ∨ n ∣ N
  · rw [if_pos h]; split <;> omega
  · rw [if_neg h]
    have : N % n ≠ 0 := by
      intro q; exact h (.inr (Int.dvd_of_emod_eq_zero q))
    split <;> omega
theorem coarse_eq (N n : Int) (hN : -1125899906842624 ≤ N ∧ N ≤ 1125899906842624) (hn : 1 ≤ n ∧ n ≤ 1125899906842624) : Fb0 N n = some (co n N) := by
  have h1 := Int.emod_nonneg N (b := n) (by omega)
  have h2 := Int.emod_lt_of_pos N (b := n) (by omega)
  have t := tm_neg N n hn.1
  unfold Fb0 aNg co
  rw [if_neg (by omega), zL]
  simp only [zV, wI]
  have hr : (if N.tmod n < 0 then some (IntKind.i64.wrap (N.tmod n + n)) else some (N.tmod n)) = some (N % n) := by
    by_cases c : N.tmod n < 0
    · rw [if_pos c] at t ⊢
      rw [Go.OB.wrap_i64 (by omega) (by omega), t]
    · rw [if_neg c] at t ⊢
      rw [t]
  rw [hr, zL, Go.OB.wrap_i64 (by omega) (by omega)]
theorem co_rng {n N:Int}(hN: -1125899906842624≤N∧N≤1125899906842624)(hn:1≤n): -1125899906842624≤co n N∧co n N≤1125899906842624:=by
  have h1:=Int.emod_nonneg N (b:=n) (by omega)
  unfold co; omega
def cs (n:Int)(x:fB):fB:=if decide (2≤x.Mark) then ⟨x.At,co n x.N,x.Mark⟩ else x
theorem clone_eq (l : List fB) (h : l.length ≤ 20000) : Fc3 l = some l := by
  have e : app' 24 ([] : List fB) l = some l := by
    unfold app'
    rw [if_pos]
    · rfl
    · constructor
      · simp [maxLen]; omega
      · simp; omega
  unfold Fc3 nilO
  rw [e]
  simp only [zL, yN, yM]
  cases l <;> simp

theorem masked_L3 (g : dU) (hn : 1 ≤ g.N ∧ g.N ≤ 1125899906842624) (l : List fB) (hl : l.length ≤ 20000) (hN : ∀ x ∈ l, -1125899906842624 ≤ x.N ∧ x.N ≤ 1125899906842624) :
    Fdv g (l.length : Int) (0, l) = some (l.map (cs g.N)) := by
  unfold Fdv
  refine bC (fun i => ((i : Int), (l.take i).map (cs g.N) ++ l.drop i)) l (some (l.map (cs g.N))) (by omega) ?_ ?_
  · intro kk i x hx hi
    have hlen : ((l.take i).map (cs g.N)).length = i := by simp; omega
    have hat : at' ((l.take i).map (cs g.N) ++ l.drop i) (i : Int) = some x := by
      rw [aFr, List.getElem?_append_right (by omega), hlen, Nat.sub_self, List.getElem?_drop, Nat.add_zero, hx]
    have hd : l.drop i = x :: l.drop (i + 1) := by rw [List.drop_eq_getElem_cons hi]; congr 1; rw [List.getElem?_eq_getElem hi] at hx; exact Option.some.inj hx
    have ht : l.take (i + 1) = l.take i ++ [x] := by rw [List.take_add_one, hx]; rfl
    simp only [zV]
    rw [xN hi, yN, hat]
    simp only [zL]
    rw [eG hi (by omega), ht, List.map_append, List.append_assoc]
    have hc : cs g.N x = if decide (2 ≤ x.Mark) then ⟨x.At, co g.N x.N, x.Mark⟩ else x := rfl
    have hset : set' ((l.take i).map (cs g.N) ++ l.drop i) (i : Int) (fB.mk x.At (co g.N x.N) x.Mark) = some ((l.take i).map (cs g.N) ++ fB.mk x.At (co g.N x.N) x.Mark :: l.drop (i + 1)) := by
      unfold set'
      rw [if_pos (by simp; omega), Int.toNat_natCast, hd, List.set_append_right _ _ (by omega), hlen, Nat.sub_self]; rfl
    rw [coarse_eq x.N g.N (hN x (List.mem_of_getElem? hx)) hn]
    simp only [zL]
    rw [hset]
    cases hq : decide (2 ≤ x.Mark)
    · rw [yM, zL, hd]
      have : cs g.N x = x := by rw [hc, hq]; rfl
      simp [this]
    · rw [yN, zL, zL]
      have : cs g.N x = ⟨x.At, co g.N x.N, x.Mark⟩ := by rw [hc, hq]; rfl
      simp [this]
  · intro kk; simp only [zV]; rw [xQ]; simp [gU]

theorem cs_rng {n:Int}{l:List fB}(hn:1≤n)(hN: ∀x ∈ l,-1125899906842624≤x.N∧x.N≤1125899906842624): ∀x ∈ l.map (cs n),-1125899906842624≤x.N∧x.N≤1125899906842624:=by
  intro x hx
  obtain ⟨y,hy,rfl⟩:=List.mem_map.1 hx
  unfold cs
  split
  · exact co_rng (hN y hy) hn
  · exact hN y hy
def grs (s:Str)(gs:List dU)(l:List fB):List fB:=gs.foldl (fun l g=>if g.Track=s then l.map (cs g.N) else l) l
theorem aJs {s : Str} : ∀ {gs : List dU} {l : List fB}, (∀ g ∈ gs, 1 ≤ g.N) → (∀ x ∈ l, -1125899906842624 ≤ x.N ∧ x.N ≤ 1125899906842624) → (grs s gs l).length = l.length ∧ ∀ x ∈ grs s gs l, -1125899906842624 ≤ x.N ∧ x.N ≤ 1125899906842624
  | [], l, _, h => ⟨rfl, h⟩
  | g :: gs, l, hg, h => by
    have hr : ∀ g ∈ gs, 1 ≤ g.N := fun x hx => hg x (List.mem_cons_of_mem _ hx)
    show (grs s gs (if g.Track = s then l.map (cs g.N) else l)).length = _ ∧ _
    by_cases c : g.Track = s
    · have q := aJs (s := s) hr (cs_rng (hg g List.mem_cons_self) h)
      rw [List.length_map] at q
      unfold grs
      simp only [List.foldl_cons, if_pos c]
      exact q
    · have q := aJs (s := s) hr h
      unfold grs
      simp only [List.foldl_cons, if_neg c]
      exact q
theorem grs_snoc (s:Str)(gs:List dU)(g:dU)(l:List fB):grs s (gs++ [g]) l=if g.Track=s then (grs s gs l).map (cs g.N) else grs s gs l:=by
  unfold grs; rw [List.foldl_append]; rfl
structure Gm (m:Mask):Prop where
  days:1≤m.Days∧m.Days≤1000000
  many:m.Grains.length≤30
  gr: ∀g ∈ m.Grains,1≤g.N∧g.N≤1125899906842624
theorem masked_L2 (m : Mask) (gm : Gm m) (t : Track) (hl : t.Series.Samples.length ≤ 20000) (hN : ∀ x ∈ t.Series.Samples, -1125899906842624 ≤ x.N ∧ x.N ≤ 1125899906842624) :
    Fdw m t (m.Grains.length : Int) (0, t.Series.Samples) = some (grs t.Name m.Grains t.Series.Samples) := by
  unfold Fdw
  have hm := gm.many
  refine bC (fun (i : Nat) => ((i : Int), grs t.Name (m.Grains.take i) t.Series.Samples)) m.Grains (some (grs t.Name m.Grains t.Series.Samples)) (by omega) ?_ ?_
  · intro kk i x hx hi
    have ht : m.Grains.take (i + 1) = m.Grains.take i ++ [x] := by rw [List.take_add_one, hx]; rfl
    have hg := gm.gr x (List.mem_of_getElem? hx)
    obtain ⟨r1, r2⟩ := aJs (s := t.Name) (gs := m.Grains.take i) (fun g hg => (gm.gr g (List.mem_of_mem_take hg)).1) hN
    simp only [zV]
    rw [xN hi, yN, xZ hx, zL, eG hi (by omega), ht, grs_snoc]
    by_cases c : x.Track = t.Name
    · rw [decide_eq_false (fun h => h c), yM, masked_L3 x hg _ (by omega) r2, zL, if_pos c]
    · rw [decide_eq_true c, yN, zL, if_neg c]
  · intro kk; simp only [zV, List.take_length]; rw [xQ, yM]
def hid (m:Mask)(s:Str):Bool:=m.Hide.any fun y=>decide (s=y)
theorem aJw (s:Str): ∀(l:List Str) (i:Nat),aX (fun _ y=>decide (s=y)) l i=l.any fun y=>decide (s=y)
  | [],_=>rfl
  | x :: l,i=>by rw [aX,List.any_cons,aJw s l (i+1)]
def mtk (m:Mask)(t:Track):Track:=⟨t.Name,⟨t.Series.Den,grs t.Name m.Grains t.Series.Samples⟩,t.Long⟩
def mts (m:Mask)(l:List Track):List Track:=(l.filter fun t=> !hid m t.Name).map (mtk m)
theorem mts_snoc (m:Mask)(l:List Track)(x:Track):mts m (l++ [x])=if hid m x.Name=true then mts m l else mts m l++ [mtk m x]:=by
  unfold mts
  rw [List.filter_append,List.map_append]
  cases h:hid m x.Name<;>simp [h]
theorem aIs (m:Mask)(l:List Track):(mts m l).length≤l.length:=by unfold mts; rw [List.length_map]; exact List.length_filter_le _ _
def mfl (m:Mask)(f:Flight):Flight:=⟨if m.Tails=true then [] else f.Tail,f.Route,f.Day - f.Day.tmod m.Days,f.From,f.To,mts m f.Tracks⟩
structure Okt (f:Flight):Prop where
  day:0≤f.Day∧f.Day≤1000000
  many:f.Tracks.length≤30
  trk: ∀t ∈ f.Tracks,t.Series.Samples.length≤20000∧ ∀x ∈ t.Series.Samples,-1125899906842624≤x.N∧x.N≤1125899906842624
theorem masked_eq (f : Flight) (m : Mask) (gm : Gm m) (o : Okt f) (hh : m.Hide.length ≤ 9223372036854775807) : Fb6 f m = some (mfl m f) := by
  have hl := o.many
  have e : Fdq f m (f.Tracks.length : Int) ([], 0) = some (mts m f.Tracks) := by
    unfold Fdq
    refine bC (fun (i : Nat) => (mts m (f.Tracks.take i), (i : Int))) f.Tracks (some (mts m f.Tracks)) (by omega) ?_ ?_
    · intro kk i x hx hi
      obtain ⟨h1, h2⟩ := o.trk x (List.mem_of_getElem? hx)
      have ht : f.Tracks.take (i + 1) = f.Tracks.take i ++ [x] := by rw [List.take_add_one, hx]; rfl
      have hl2 := aIs m (f.Tracks.take i)
      rw [List.length_take] at hl2
      have ha : app' 56 (mts m (f.Tracks.take i)) [Track.mk x.Name (Series.mk x.Series.Den (grs x.Name m.Grains x.Series.Samples)) x.Long] = some (mts m (f.Tracks.take i) ++ [mtk m x]) := by
        unfold app'
        rw [if_pos]
        · rfl
        · simp [maxLen]; omega
      simp only [zV]
      rw [xN hi, yN, xZ hx, zL, aKe _ _ hh, zL, aJw, ht, mts_snoc, eG hi (by omega)]
      show gB (gU (hid m x.Name) _ _) _ = _
      cases hid m x.Name
      · rw [yM, clone_eq _ h1, zL, masked_L2 m gm x h1 h2, zL, ha, zL, zL]; rfl
      · rw [yN, zL]; rfl
    · intro kk; simp only [zV, List.take_length]; rw [xQ, yM]
  have d := gm.days
  have dd := o.day
  have t1 := Int.tmod_nonneg m.Days dd.1
  have t2 := Int.tmod_lt_of_pos f.Day (show 0 < m.Days by omega)
  unfold Fb6
  simp only [zV, zL]
  unfold aNg
  rw [e, if_neg (by omega)]
  simp only [zL]
  rw [Go.OB.wrap_i64 (by omega) (by omega)]
  unfold mfl
  cases m.Tails <;> rfl
end Go.Lf
namespace Go.Lf
theorem cs_at (n:Int)(x:fB):(cs n x).At=x.At∧(cs n x).Mark=x.Mark:=by unfold cs; split<;>exact ⟨rfl,rfl⟩
theorem cs_n (n:Int)(x:fB):(cs n x).N=if 2≤x.Mark then co n x.N else x.N:=by unfold cs; by_cases h:2≤x.Mark<;>simp [h]
theorem aFa (l : List fB) (i : Nat) (x : fB) : aHw l i x = 0 ↔ (0 ≤ x.At ∧ x.At ≤ 1099511627776) ∧ (-1125899906842624 ≤ x.N ∧ x.N ≤ 1125899906842624) ∧ (0 ≤ x.Mark ∧ x.Mark ≤ 4) ∧ (x.N = 0 ∨ 2 ≤ x.Mark) ∧ (∀ j y, i = j + 1 → l[j]? = some y → y.At < x.At) := by
  unfold aHw
  split
  · rename_i h
    simp only [Bool.or_eq_true, Bool.not_eq_true', Bool.and_eq_false_iff, decide_eq_false_iff_not] at h
    constructor
    · intro q; cases q
    · intro q; omega
  · rename_i h
    simp only [Bool.or_eq_true, Bool.not_eq_true', Bool.and_eq_false_iff, decide_eq_false_iff_not] at h
    split
    · rename_i h2
      simp only [Bool.and_eq_true, decide_eq_true_eq] at h2
      constructor
      · intro q; cases q
      · intro q; omega
    · rename_i h2
      simp only [Bool.and_eq_true, decide_eq_true_eq] at h2
      cases i with
      | zero =>
        simp only [true_iff]
        exact ⟨by omega, by omega, by omega, by omega, fun j y hj => by omega⟩
      | succ j =>
        cases e : l[j]? with
        | none =>
          simp only [e, true_iff]
          refine ⟨by omega, by omega, by omega, by omega, ?_⟩
          intro j' y hj hy
          obtain rfl : j' = j := by omega
          rw [e] at hy; cases hy
        | some y =>
          simp only [e, decide_eq_true_eq]
          constructor
          · intro q
            by_cases c : x.At ≤ y.At
            · rw [if_pos c] at q; cases q
            · refine ⟨by omega, by omega, by omega, by omega, ?_⟩
              intro j' z hj hz
              obtain rfl : j' = j := by omega
              rw [e] at hz; cases hz; omega
          · rintro ⟨_, _, _, _, q⟩
            have := q j y rfl e
            rw [if_neg (by omega)]
theorem ser_mask {d : Int} {l : List fB} {n : Int} (hn : 1 ≤ n) (h : sD ⟨d, l⟩ = 0) : sD ⟨d, l.map (cs n)⟩ = 0 := by
  rw [aIx] at h ⊢
  obtain ⟨h1, h2, h3⟩ := h
  refine ⟨h1, by simpa using h2, ?_⟩
  intro i x hx
  simp only [List.getElem?_map, Option.map_eq_some_iff] at hx
  obtain ⟨y, hy, rfl⟩ := hx
  have := (aFa _ _ _).1 (h3 i y hy)
  obtain ⟨q1, q2, q3, q4, q5⟩ := this
  obtain ⟨c1, c2⟩ := cs_at n y
  rw [aFa, c1, c2, cs_n]
  have r := co_rng q2 hn
  refine ⟨q1, ?_, q3, ?_, ?_⟩
  · split <;> omega
  · by_cases c : 2 ≤ y.Mark
    · exact .inr c
    · rw [if_neg c]; omega
  · intro j z hj hz
    simp only [List.getElem?_map, Option.map_eq_some_iff] at hz
    obtain ⟨z', hz', rfl⟩ := hz
    rw [(cs_at n z').1]
    exact q5 j z' hj hz'
theorem trk_facts {l:List Track}(h:aCm l=0){t:Track}(ht:t ∈ l):t.Series.Samples.length≤20000∧ ∀x ∈ t.Series.Samples,-1125899906842624≤x.N∧x.N≤1125899906842624:=by
  obtain ⟨i,hi⟩:=List.getElem?_of_mem ht
  have q:=((sV l i t).1 (((aDe l).1 h).2 i t hi)).2.2.1
  rw [aIx] at q
  refine ⟨q.2.1,fun x hx=>?_⟩
  obtain ⟨j,hj⟩:=List.getElem?_of_mem hx
  exact ((aFa _ _ _).1 (q.2.2 j x hj)).2.1

structure Good2 (m:Mask):Prop extends Gm m where
  pw:m.Grains.Pairwise fun a b=>a.Track≠b.Track
theorem mts_mem {m:Mask}{l:List Track}{t:Track}(h:t ∈ mts m l): ∃u ∈ l,t=mtk m u:=by
  unfold mts at h
  obtain ⟨u,hu,rfl⟩:=List.mem_map.1 h
  exact ⟨u,(List.mem_filter.1 hu).1,rfl⟩
theorem aPk {d:Int}{s:Str}: ∀(gs:List dU) (l:List fB),(∀g ∈ gs,1≤g.N)→sD ⟨d,l⟩=0→sD ⟨d,grs s gs l⟩=0
  | [],_,_,h=>h
  | g :: gs,l,hg,h=>by
    show sD ⟨d,grs s gs (if g.Track=s then l.map (cs g.N) else l)⟩=0
    refine aPk gs _ (fun x hx=>hg x (List.mem_cons_of_mem _ hx)) ?_
    split
    · exact ser_mask (hg g List.mem_cons_self) h
    · exact h
theorem mts_pw {m:Mask}{l:List Track}(h:l.Pairwise fun a b=>a.Name≠b.Name):(mts m l).Pairwise fun a b=>a.Name≠b.Name:=by
  unfold mts
  rw [List.pairwise_map]
  exact (List.Pairwise.filter _ h).imp fun h=>h
theorem trk_mts {m : Mask} (g : Gm m) {l : List Track} (h : aCm l = 0) : aCm (mts m l) = 0 := by
  have hp := mts_pw (m := m) (names_pw h)
  rw [aDe] at h ⊢
  refine ⟨Nat.le_trans (aIs m l) h.1, ?_⟩
  intro i x hx
  obtain ⟨u, hu, rfl⟩ := mts_mem (List.mem_of_getElem? hx)
  obtain ⟨j, hj⟩ := List.getElem?_of_mem hu
  obtain ⟨q1, _, q3, q4⟩ := (sV l j u).1 (h.2 j u hj)
  rw [sV]
  refine ⟨q1, ?_, aPk _ _ (fun x hx => (g.gr x hx).1) q3, q4⟩
  rw [Bool.eq_false_iff]
  intro ht
  obtain ⟨k, z, h1, h2⟩ := (pY _ _ _).1 ht
  rw [List.getElem?_take] at h1
  split at h1
  · rename_i hk
    rw [List.pairwise_iff_getElem] at hp
    have e1 := List.getElem?_eq_some_iff.1 h1
    have e2 := List.getElem?_eq_some_iff.1 hx
    have := hp k i e1.1 e2.1 hk
    rw [e1.2, e2.2] at this
    exact this (by simpa using h2)
  · cases h1
theorem aLz {m:Mask}(gm:Gm m){f:Flight}(g:Good f):Good (mfl m f):=by
  have d:=gm.days
  have dd:=g.day
  have t1:=Int.tmod_nonneg m.Days dd.1
  have t2:f.Day.tmod m.Days≤f.Day:=by
    have e:=Int.mul_tdiv_add_tmod f.Day m.Days
    have:=Int.mul_nonneg (show 0≤m.Days by omega) (Int.tdiv_nonneg dd.1 (show 0≤m.Days by omega))
    omega
  refine ⟨?_,g.route,⟨by show 0≤f.Day - _; omega,by show f.Day - _≤_; omega⟩,g.frm,g.span,Nat.le_trans (aIs m f.Tracks) g.many,trk_mts gm g.trk⟩
  show (if m.Tails=true then [] else f.Tail)= []∨mQ (if m.Tails=true then [] else f.Tail)=true
  split
  · exact .inl rfl
  · exact g.tail
theorem okt_of {f:Flight}(g:Good f):Okt f:=⟨g.day,g.many,fun _ ht=>trk_facts g.trk ht⟩
theorem aBw {α : Type} (e : Nat → α → Int) : ∀ (l : List α) (i : Nat) (fin : Option Int), eH (fun i x => if e i x = 0 then none else some (some (e i x))) fin l i = some 0 → (∀ j x, l[j]? = some x → e (i + j) x = 0) ∧ fin = some 0
  | [], i, fin, h => ⟨fun j x hx => by simp at hx, h⟩
  | x :: l, i, fin, h => by
    rw [eH] at h
    by_cases c : e i x = 0
    · simp only [c, if_true] at h
      obtain ⟨h1, h2⟩ := aBw e l (i + 1) fin h
      refine ⟨fun j y hy => ?_, h2⟩
      cases j with
      | zero => simp at hy; subst hy; simpa using c
      | succ j => have := h1 j y (by simpa using hy); rwa [show i + (j + 1) = i + 1 + j by omega]
    · simp only [c, if_false] at h
      exact absurd (Option.some.inj h) c
theorem aHm (m : Mask) : ∃ c, aIp m = some c := by
  have h1 : ∃ r, lstE m = some r := by unfold lstE; split <;> exact ⟨_, rfl⟩
  have h2 : ∃ r, mskG m = some r := by
    unfold mskG
    split
    · exact ⟨_, rfl⟩
    · exact nM h1 (fun i x r h => aAo h) _ _
  unfold aIp
  split
  · exact ⟨_, rfl⟩
  · split
    · exact ⟨_, rfl⟩
    · exact nM h2 (fun i x r h => aAo h) _ _
theorem aMw {l : List dU} {i : Nat} {x : dU} (h : graE l i x = 0) : aX (fun _ y => decide (y.Track = x.Track)) (l.take i) 0 = false ∧ 1 ≤ x.N ∧ x.N ≤ 1125899906842624 := by
  unfold graE at h
  split at h
  · cases h
  · split at h
    · cases h
    · split at h
      · cases h
      · rename_i h1 h2 h3
        simp only [Bool.not_eq_true', Bool.and_eq_false_iff, decide_eq_false_iff_not] at h3
        exact ⟨by simpa using h2, by omega, by omega⟩
theorem good2_of {m : Mask} (h : aIp m = some 0) : Good2 m := by
  unfold aIp at h
  split at h
  · cases h
  · rename_i h1
    split at h
    · cases h
    · have h2 := (aBw _ _ _ _ h).2
      unfold mskG at h2
      split at h2
      · cases h2
      · rename_i h3
        have h4 := (aBw _ _ _ _ h2).1
        simp only [Bool.not_eq_true', Bool.and_eq_false_iff, decide_eq_false_iff_not] at h1
        have h3 : m.Grains.length ≤ 30 := by simp at h3; omega
        refine ⟨⟨by omega, h3, fun g hg => ?_⟩, ?_⟩
        · obtain ⟨j, hj⟩ := List.getElem?_of_mem hg
          have := h4 j g hj
          rw [Nat.zero_add] at this
          exact (aMw this).2
        · rw [List.pairwise_iff_getElem]
          intro i j hi hj hij e
          have q := h4 j _ (List.getElem?_eq_getElem hj)
          rw [Nat.zero_add] at q
          have t : aX (fun _ z => decide (z.Track = m.Grains[j].Track)) (m.Grains.take j) 0 = true := (pY _ _ _).2 ⟨i, m.Grains[i], by rw [List.getElem?_take, if_pos hij]; exact List.getElem?_eq_getElem hi, by simpa using e⟩
          rw [(aMw q).1] at t; cases t
end Go.Lf
