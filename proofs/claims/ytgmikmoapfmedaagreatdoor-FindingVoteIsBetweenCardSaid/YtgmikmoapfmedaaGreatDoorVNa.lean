/- Walks: what each function computes, for every argument; no condition but those that stand in the statements. -/
import Derived.Test.YtgmikmoapfmedaaGreatDoorVP
import Derived.Test.YtgmikmoapfmedaaGreatDoorLfQ
import Derived.Test.YtgmikmoapfmedaaGreatDoorPl
namespace Go.Lf
open Go.OB
def uT (x:fC):Prop:=i64 x.At∧i64 x.N∧i64 x.Mark
def aAx (x:Series):Prop:=i64 x.Den∧okL (fun x=>uT x) x.Samples
def kY (x:gV):Prop:=okS x.Name∧aAx x.Series∧i64 x.Long
end Go.Lf
namespace Go.Lf
def kws:List Str:=[[112,104,97,115,101],[109,111,118,101],[114,117,108,101],[105,102],[111,114],[97,110,100],[116,114,117,101],[102,97,108,115,101],[115,116,101,97,100,121],[110,111,116],[102,111,114],[119,105,116,104,105,110],[99,111,117,110,116],[111,102],[114,105,115,101,115],[115,105,110,99,101]]
theorem aEa (a b c:Int):Fad a b c=some (decide (b≤a) && decide (a≤c)):=by
  unfold Fad; simp only [yA,uY,zM]
theorem aDu (a b c:Int):Faf a b c=some (decide (b≤a) && decide (a≤c)):=by
  unfold Faf; simp only [yA,uY,zM]
theorem out5 (a b c:Int):Fae a b c=some (decide (a<b) || decide (c<a)):=by
  unfold Fae; simp only [yA,tN,zM]
theorem out6 (a b c:Int):Fas a b c=some (decide (a<b) || decide (c<a)):=by
  unfold Fas; simp only [yA,tN,zM]
def isW (s:Str):Bool:=decide (s ∈ kws)
theorem isWord_eq (s:Str):Fap s=some (isW s):=by
  unfold Fap isW kws
  simp only [yA,iteB_or,zM,iteB_id,List.mem_cons,List.not_mem_nil,or_false,Bool.decide_or]
def nmB (c:Int):Bool:=(decide (97≤c) && decide (c≤122)) || (decide (48≤c) && decide (c≤57)) || decide (c=45)
theorem aBa (c:Int):Fat c=some (nmB c):=by
  unfold Fat nmB
  simp only [yA,zM]
  cases decide (97≤c)<;>cases decide (c≤122)<;>cases decide (48≤c)<;>cases decide (c≤57)<;>cases decide (c=45)<;>rfl
def vK:Nat→UInt8→Bool:=fun _ c=> !nmB (c.toNat:Int)
theorem isName_L1 (s : Str) (hs : okS s) (k : Unit → Option Bool) : Fb8 s k (s.length : Int) 0 = if aF vK s 0 = true then some false else k () := by
  unfold Fb8
  rw [dI s (fun i c => if vK i c = true then some (some false) else none) (k ()) hs]
  · exact jH vK (some false) (k ()) s 0
  · intro kk i c hc hi
    unfold vK
    simp only [yA]
    rw [cZ hi, yR, uZ hc, zM, aBa, zM]
    cases nmB (c.toNat : Int)
    · rfl
    · simp only [Bool.not_true, yY]; rw [aN hi hs]; rfl
  · intro kk; simp only [yA]; rw [bC]; rfl
def pV (s:Str):Bool:=match s with
  | []=>false
  | c :: _=>decide (97≤(c.toNat:Int)) && decide ((c.toNat:Int)≤122)
def wM (s:Str):Bool:=decide (s.length≤30) && pV s && !isW s && !aF vK s 0
theorem isName_eq (s:Str)(hs:okS s):Fag s=some (wM s):=by
  unfold Fag wM
  simp only [yA,zM,aEa,dM,isName_L1 s hs,isWord_eq]
  cases s with
  | nil=>rfl
  | cons c l=>
    have h0:byte' (c :: l) 0=some (c.toNat:Int):=uZ (i:=0) rfl
    have h1:decide ((1:Int)≤((c :: l).length:Int))=true:=decide_eq_true (by simp; omega)
    have h2:decide (((c :: l).length:Int)≤30)=decide ((c :: l).length≤30):=decide_eq_decide.2 (by omega)
    have h3:decide ((c.toNat:Int)<97)= !decide (97≤(c.toNat:Int)):=by rw [← decide_not]; exact decide_eq_decide.2 (by omega)
    have h4:decide (122<(c.toNat:Int))= !decide ((c.toNat:Int)≤122):=by rw [← decide_not]; exact decide_eq_decide.2 (by omega)
    rw [h0,h1,h2]
    simp only [zM,Bool.true_and,h3,h4,pV]
    cases decide ((c :: l).length≤30)<;>cases decide (97≤(c.toNat:Int))<;>cases decide ((c.toNat:Int)≤122)<;>cases isW (c :: l)<;>cases aF vK (c :: l) 0<;>rfl
end Go.Lf
namespace Go.Lf
theorem aBg (s : Str) : Fbg s = some (isW s) := by
  unfold Fbg Fbs
  simp only [yA, zM, dM]
  change Fbl s kws (fun _ => some false) 0 = _
  unfold Fbl
  rw [dI kws (fun _ x => if decide (x = s) = true then some (some true) else none) (some false) (by decide)]
  · rw [jH (fun _ x => decide (x = s))]
    have e : aF (fun _ x => decide (x = s)) kws 0 = isW s := by
      rw [Bool.eq_iff_iff, aBe]
      unfold isW
      simp only [decide_eq_true_eq]
      constructor
      · rintro ⟨j, x, h, rfl⟩; exact List.mem_of_getElem? h
      · intro h; obtain ⟨j, hj⟩ := List.getElem?_of_mem h; exact ⟨j, s, hj, rfl⟩
    rw [e]; cases isW s <;> rfl
  · intro kk i c hc hi
    simp only [yA]
    rw [cZ hi, yR, dZ hc, zM]
    cases decide (c = s)
    · simp only [yY]; rw [aN hi (by decide)]; rfl
    · rfl
  · intro kk; simp only [yA]; rw [bC]; rfl
def badR:Nat→UInt8→Bool:=fun i c=> !((decide (97≤(c.toNat:Int)) && decide ((c.toNat:Int)≤122)) || (decide (0<(i:Int)) && ((decide (48≤(c.toNat:Int)) && decide ((c.toNat:Int)≤57)) || decide ((c.toNat:Int)=45))))
theorem aCm (s : Str) (hs : okS s) (k : Unit → Option Bool) : Fbp s k 0 = if aF badR s 0 = true then some false else k () := by
  unfold Fbp
  rw [dI s (fun i c => if badR i c = true then some (some false) else none) (k ()) hs]
  · exact jH badR (some false) (k ()) s 0
  · intro kk i c hc hi
    unfold badR
    simp only [yA]
    rw [cZ hi, yR, uZ hc, zM]
    rw [aN hi hs]
    cases decide (97 ≤ (c.toNat : Int)) <;> cases decide ((c.toNat : Int) ≤ 122) <;> cases decide (0 < (i : Int)) <;> cases decide (48 ≤ (c.toNat : Int)) <;> cases decide ((c.toNat : Int) ≤ 57) <;> cases decide ((c.toNat : Int) = 45) <;> rfl
  · intro kk; simp only [yA]; rw [bC]; rfl
theorem aCt (s:Str)(hs:okS s):Fbh s=some (wM s):=by
  unfold Fbh wM
  simp only [yA,zM,dM,aCm s hs,aBg]
  cases s with
  | nil=>rfl
  | cons c l=>
    have h2:decide (((c :: l).length:Int)≤30)=decide ((c :: l).length≤30):=decide_eq_decide.2 (by omega)
    have h5:decide ((c :: l)≠ [])=true:=by simp
    have e:aF badR l (0+1)=aF vK l (0+1):=uN l (0+1) fun j x _=>by
      have:decide (0<((0+1+j:Nat):Int))=true:=decide_eq_true (by omega)
      unfold badR vK nmB
      rw [this]
      simp only [Bool.true_and,Bool.or_assoc]
    rw [aF,aF,e,h2,h5]
    have e2:badR 0 c= !(decide (97≤(c.toNat:Int)) && decide ((c.toNat:Int)≤122)):=by unfold badR; simp
    have e3:vK 0 c= !(pV (c :: l) || (decide (48≤(c.toNat:Int)) && decide ((c.toNat:Int)≤57)) || decide ((c.toNat:Int)=45)):=rfl
    have e4:badR 0 c= !pV (c :: l):=e2
    rw [e3,e4]
    cases pV (c :: l)<;>cases aF vK l (0+1)<;>cases decide ((c :: l).length≤30)<;>cases isW (c :: l)<;>simp [gK,gG]
def aAv (l:List fC)(i:Nat)(x:fC):Int:=
  if !(decide (0≤x.At) && decide (x.At≤1099511627776)) || !(decide (-1125899906842624≤x.N) && decide (x.N≤1125899906842624)) || !(decide (0≤x.Mark) && decide (x.Mark≤4)) then 9
  else if decide (x.N≠0) && decide (x.Mark≤1) then 2
  else match i with
    | 0=>0
    | j+1=>match l[j]? with
      | some y=>if decide (x.At≤y.At) then 10 else 0
      | none=>0
def serF (l:List fC)(fin:Option (Int×Int)):Option (Int×Int):=bT (fun i x=>if aAv l i x=0 then none else some (some ((i:Int),aAv l i x))) fin l 0
theorem aBx {l:List fC}{i:Nat}(hi:i<l.length)(hl:l.length≤9223372036854775807)(h0:0<i): ∃y,l[i - 1]? =some y∧at' l (IntKind.i64.wrap ((i:Int) - 1))=some y:=by
  have h1:i - 1<l.length:=by omega
  refine ⟨l[i - 1],List.getElem?_eq_getElem h1,?_⟩
  rw [Go.OB.wrap_i64 (by omega) (by omega),show (i:Int) - 1=((i - 1:Nat):Int) by omega]
  exact dZ (List.getElem?_eq_getElem h1)
theorem check_L1 (s : Series) (hs : s.Samples.length ≤ 9223372036854775807) (k : Unit → Option (Int × Int)) : Fbt s k (s.Samples.length : Int) 0 = serF s.Samples (k ()) := by
  unfold Fbt serF
  refine dI s.Samples _ (k ()) hs ?_ ?_
  · intro kk i x hx hi
    simp only [yA, aDu, zM]
    rw [cZ hi, yR, dZ hx, zM, aN hi hs]
    unfold aAv
    cases decide (0 ≤ x.At) <;> cases decide (x.At ≤ 1099511627776) <;> simp only [Bool.and_true, Bool.and_false, Bool.true_and, Bool.false_and, Bool.not_true, Bool.not_false, Bool.true_or, Bool.false_or, yR, yY, zM, if_true, Bool.false_eq_true, if_false] <;> try rfl
    cases decide (-1125899906842624 ≤ x.N) <;> cases decide (x.N ≤ 1125899906842624) <;> simp only [Bool.and_true, Bool.and_false, Bool.true_and, Bool.false_and, Bool.not_true, Bool.not_false, Bool.true_or, Bool.false_or, yR, yY, zM, if_true, Bool.false_eq_true, if_false] <;> try rfl
    cases decide (0 ≤ x.Mark) <;> cases decide (x.Mark ≤ 4) <;> simp only [Bool.and_true, Bool.and_false, Bool.true_and, Bool.false_and, Bool.not_true, Bool.not_false, Bool.true_or, Bool.false_or, yR, yY, zM, if_true, Bool.false_eq_true, if_false] <;> try rfl
    cases decide (x.N ≠ 0) <;> cases decide (x.Mark ≤ 1) <;> simp only [Bool.and_true, Bool.and_false, Bool.true_and, Bool.false_and, Bool.not_true, Bool.not_false, Bool.true_or, Bool.false_or, yR, yY, zM, if_true, Bool.false_eq_true, if_false] <;> try rfl
    all_goals
      cases i with
      | zero => rfl
      | succ j =>
        obtain ⟨y, h1, h2⟩ := aBx hi hs (by omega)
        have h3 : decide (0 < ((j + 1 : Nat) : Int)) = true := decide_eq_true (by omega)
        rw [h2, h3]
        simp only [Nat.add_sub_cancel] at h1
        simp only [yR, zM, h1]
        cases decide (x.At ≤ y.At) <;> rfl
  · intro kk; simp only [yA]; rw [bC]; rfl
theorem aAe (a b c:Int):(decide (a<b) || decide (c<a))= !(decide (b≤a) && decide (a≤c)):=by
  by_cases h1:b≤a<;>by_cases h2:a≤c<;>simp [h1,h2]<;>omega
theorem uF (x:fC):Fa4 x=some (if !(decide (0≤x.At) && decide (x.At≤1099511627776)) || !(decide (-1125899906842624≤x.N) && decide (x.N≤1125899906842624)) || !(decide (0≤x.Mark) && decide (x.Mark≤4)) then 9
    else if decide (x.N≠0) && decide (x.Mark≤1) then 2 else 0):=by
  unfold Fa4 Fb0
  simp only [yA,zM,out5,aAe,tN,uY]
  have h:(!decide (2≤x.Mark))=decide (x.Mark≤1):=by rw [← decide_not]; exact decide_eq_decide.2 (by omega)
  rw [h]
  cases (!(decide (0≤x.At) && decide (x.At≤1099511627776)))<;>cases (!(decide (-1125899906842624≤x.N) && decide (x.N≤1125899906842624)))<;>cases (!(decide (0≤x.Mark) && decide (x.Mark≤4)))<;>cases decide (x.N≠0)<;>cases decide (x.Mark≤1)<;>rfl
theorem fault_L1 (s : Series) (hs : s.Samples.length ≤ 9223372036854775807) (k : Unit → Option (Int × Int)) : Fbv s k 0 = serF s.Samples (k ()) := by
  unfold Fbv serF
  refine dI s.Samples _ (k ()) hs ?_ ?_
  · intro kk i x hx hi
    simp only [yA, uF, zM]
    rw [cZ hi, yR, dZ hx, zM, aN hi hs]
    unfold aAv
    cases (!(decide (0 ≤ x.At) && decide (x.At ≤ 1099511627776)) || !(decide (-1125899906842624 ≤ x.N) && decide (x.N ≤ 1125899906842624)) || !(decide (0 ≤ x.Mark) && decide (x.Mark ≤ 4)))
    · cases (decide (x.N ≠ 0) && decide (x.Mark ≤ 1))
      · cases i with
        | zero => rfl
        | succ j =>
          obtain ⟨y, h1, h2⟩ := aBx hi hs (by omega)
          have h3 : decide (0 < ((j + 1 : Nat) : Int)) = true := decide_eq_true (by omega)
          rw [h2, h3]
          simp only [Nat.add_sub_cancel] at h1
          simp only [yR, zM, h1, Bool.false_eq_true, if_false]
          cases decide (x.At ≤ y.At) <;> rfl
      · rfl
    · rfl
  · intro kk; simp only [yA]; rw [bC]; rfl
def aAz (s:Series):Option (Int×Int):=if !(decide (1≤s.Den) && decide (s.Den≤1000000)) then some (-1,9) else if decide (20000<(s.Samples.length:Int)) then some (-1,3) else serF s.Samples (some (-1,0))
theorem check_eq (s:Series)(hs:s.Samples.length≤9223372036854775807):Fa7 s=aAz s:=by
  unfold Fa7 aAz
  simp only [yA,zM,aDu,dM,check_L1 s hs,jI]
theorem fault_eq (s:Series)(hs:s.Samples.length≤9223372036854775807):Fa9 s=aAz s:=by
  unfold Fa9 aAz
  simp only [yA,zM,out5,aAe,dM,fault_L1 s hs,jI]
theorem pG {α β:Type}{q:Nat→α→Option (Option β)}{fin:Option β}(hf: ∃r,fin=some r)(hq: ∀i x r,q i x=some r→ ∃y,r=some y): ∀(l:List α) (i:Nat),∃r,bT q fin l i=some r
  | [],i=>hf
  | x :: l,i=>by
    rw [bT]
    cases h:q i x with
    | none=>exact pG hf hq l (i+1)
    | some r=>exact hq i x r h
theorem aCd {β:Type}{p:Prop} [Decidable p] {y:β}{r:Option β}(h:(if p then none else some (some y))=some r): ∃z,r=some z:=by
  split at h
  · cases h
  · cases h; exact ⟨_,rfl⟩
theorem qZ (s : Series) : ∃ r, aAz s = some r := by
  unfold aAz serF
  split
  · exact ⟨_, rfl⟩
  · split
    · exact ⟨_, rfl⟩
    · exact pG ⟨_, rfl⟩ (fun i x r h => aCd h) _ _
def qF (s:Series):Int:=((aAz s).getD (0,0)).2
theorem sCheck_eq (s:Series)(hs:s.Samples.length≤9223372036854775807):Fbd s=some (qF s):=by
  obtain ⟨r,hr⟩:=qZ s
  unfold Fbd qF; rw [check_eq s hs,hr]; rfl
theorem rCheck_eq (s:Series)(hs:s.Samples.length≤9223372036854775807):Faw s=some (qF s):=by
  obtain ⟨r,hr⟩:=qZ s
  unfold Faw qF; rw [fault_eq s hs,hr]; rfl
end Go.Lf
namespace Go.Lf
theorem aEk {α:Type}(p:Nat→α→Bool): ∀(l:List α) (i:Nat),∃n,bT (fun i x=>if p i x=true then some (some (i:Int)) else none) (some (-1)) l i=some n∧decide (0≤n)=aF p l i
  | [],i=>⟨-1,rfl,rfl⟩
  | x :: l,i=>by
    rw [bT,aF]
    cases h:p i x with
    | true=>exact ⟨i,rfl,by simp⟩
    | false=>simpa using aEk p l (i+1)
theorem contT_eq (l : List gV) (c : gV) (hl : l.length ≤ 9223372036854775807) : Faz l c = some (aF (fun _ y => decide (y.Name = c.Name)) l 0) := by
  obtain ⟨n, h1, h2⟩ := aEk (fun (_ : Nat) (y : gV) => decide (y.Name = c.Name)) l 0
  have e : Fay l c = some n := by
    unfold Fay
    simp only [yA, dM]
    unfold Fdo
    rw [← h1]
    refine dI l _ _ hl ?_ ?_
    · intro kk i x hx hi
      unfold Fb6
      simp only [yA, zM]
      rw [cZ hi, yR, dZ hx, zM, aN hi hl]
      cases decide (x.Name = c.Name) <;> rfl
    · intro kk; simp only [yA]; rw [bC]; rfl
  unfold Faz
  rw [e]
  simp only [yA, zM, h2]
def aCg (l:List gV)(i:Nat)(x:gV):Int:=
  if !wM x.Name then 8 else if aF (fun _ y=>decide (y.Name=x.Name)) (l.take i) 0 then 5
  else if qF x.Series≠0 then qF x.Series else if !(decide (0≤x.Long) && decide (x.Long≤1099511627776)) then 9 else 0
def aAn (l:List gV):Option Int:=if decide (50<(l.length:Int)) then some 3 else bT (fun i x=>if aCg l i x=0 then none else some (some (aCg l i x))) (some 0) l 0
theorem tH {l:List gV}(h:okL kY l){i:Nat}{x:gV}(hx:l[i]? =some x):okS x.Name∧x.Series.Samples.length≤9223372036854775807:=by
  have:=h.2 x (List.mem_of_getElem? hx)
  exact ⟨this.1,this.2.1.2.1⟩
theorem uO (l : List gV) (h : okL kY l) : Fa3 l = aAn l := by
  unfold Fa3 aAn
  simp only [yA, dM, jI]
  congr 1
  unfold Fc9
  refine dI l _ _ h.1 ?_ ?_
  · intro kk i x hx hi
    obtain ⟨o1, o2⟩ := tH h hx
    simp only [yA]
    rw [cZ hi, yR, dZ hx, zM, isName_eq _ o1, zM, sub_nat l (by omega), aN hi h.1]
    simp only [zM, contT_eq (l.take i) x (by have := h.1; simp; omega), sCheck_eq _ o2, aEa]
    unfold aCg
    cases wM x.Name
    · rfl
    · cases aF (fun _ y => decide (y.Name = x.Name)) (l.take i) 0
      · simp only [Bool.not_true, yY, Bool.false_eq_true, if_false, nI, jI]
        by_cases hz : qF x.Series = 0
        · cases (decide (0 ≤ x.Long) && decide (x.Long ≤ 1099511627776)) <;> simp [hz]
        · simp [hz]
      · rfl
  · intro kk; simp only [yA]; rw [bC]; rfl
theorem aCz (l : List gV) (hl : l.length ≤ 9223372036854775807) {i : Nat} {x : gV} (hx : l[i]? = some x) (k : Unit → Option Int) : Fb4 l (i : Int) k 0 = if aF (fun _ y => decide (y.Name = x.Name)) (l.take i) 0 = true then some 5 else k () := by
  have hi := (List.getElem?_eq_some_iff.1 hx).1
  have ht : (l.take i).length = i := by rw [List.length_take]; exact Nat.min_eq_left (Nat.le_of_lt hi)
  have hm : (l.take i).length ≤ 9223372036854775807 := by rw [ht]; exact Nat.le_trans (Nat.le_of_lt hi) hl
  have e := jH (fun _ y => decide (y.Name = x.Name)) (some 5) (k ()) (l.take i) 0
  rw [← e]
  unfold Fb4
  refine dI (l.take i) _ (k ()) hm ?_ ?_
  · intro kk j y hy hj
    rw [ht] at hj
    have hy' : l[j]? = some y := by rw [List.getElem?_take, if_pos hj] at hy; exact hy
    simp only [yA]
    rw [cZ hj, yR, dZ hy', zM, dZ hx, zM, aN (n := l.length) (Nat.lt_trans hj hi) hl]
    cases decide (y.Name = x.Name)
    · rfl
    · rfl
  · intro kk
    rw [ht]
    simp only [yA, bC, yY]
theorem rO (l : List gV) (h : okL kY l) : Fa1 l = aAn l := by
  unfold Fa1 aAn
  simp only [yA, dM, jI]
  congr 1
  unfold Fch
  refine dI l _ _ h.1 ?_ ?_
  · intro kk i x hx hi
    obtain ⟨o1, o2⟩ := tH h hx
    simp only [yA, dM]
    rw [cZ hi, yR, dZ hx, zM, aCt _ o1, zM, aCz l h.1 hx, aN hi h.1]
    simp only [zM, rCheck_eq _ o2, out6, aAe]
    unfold aCg
    cases wM x.Name
    · rfl
    · cases aF (fun _ y => decide (y.Name = x.Name)) (l.take i) 0
      · simp only [Bool.not_true, yY, Bool.false_eq_true, if_false, nI, jI]
        by_cases hz : qF x.Series = 0
        · cases (decide (0 ≤ x.Long) && decide (x.Long ≤ 1099511627776)) <;> simp [hz]
        · simp [hz]
      · rfl
  · intro kk; simp only [yA]; rw [bC]; rfl
theorem trkF_some (l:List gV): ∃r,aAn l=some r:=by
  unfold aAn
  split
  · exact ⟨_,rfl⟩
  · exact pG ⟨_,rfl⟩ (fun i x r h=>aCd h) _ _
end Go.Lf
namespace Go.Lf
def kE (l:List gV):Int:=(aAn l).getD 0
theorem aAq (l:List gV):aAn l=some (kE l):=by obtain ⟨r,h⟩:=trkF_some l; unfold kE; rw [h]; rfl
end Go.Lf
namespace Go.Lf
theorem sZ {α : Type} (e : Nat → α → Int) : ∀ (l : List α) (i : Nat), bT (fun i x => if e i x = 0 then none else some (some (e i x))) (some 0) l i = some 0 ↔ ∀ j x, l[j]? = some x → e (i + j) x = 0
  | [], i => by simp [bT]
  | x :: l, i => by
    rw [bT]
    by_cases h : e i x = 0
    · rw [if_pos h]
      refine (sZ e l (i + 1)).trans ?_
      constructor
      · intro q j y hy
        cases j with
        | zero => simp at hy; subst hy; simpa using h
        | succ j => have := q j y (by simpa using hy); rwa [show i + (j + 1) = i + 1 + j by omega]
      · intro q j y hy; have := q (j + 1) y (by simpa using hy); rwa [show i + (j + 1) = i + 1 + j by omega] at this
    · rw [if_neg h]
      constructor
      · intro q; exact absurd (Option.some.inj q) h
      · intro q; exact absurd (by simpa using q 0 x rfl) h
theorem aAi (l : List gV) : kE l = 0 ↔ l.length ≤ 50 ∧ ∀ i x, l[i]? = some x → aCg l i x = 0 := by
  have e := aAq l
  unfold aAn at e
  split at e
  · rename_i h
    simp only [decide_eq_true_eq] at h
    have := Option.some.inj e
    constructor
    · intro h0; omega
    · intro h0; omega
  · rename_i h
    simp only [decide_eq_true_eq] at h
    have f := sZ (aCg l) l 0
    simp only [Nat.zero_add] at f
    rw [e] at f
    constructor
    · intro h0; exact ⟨by omega, f.1 (by rw [h0])⟩
    · rintro ⟨_, h0⟩; exact Option.some.inj (f.2 h0)
theorem uS (l : List gV) (i : Nat) (x : gV) : aCg l i x = 0 ↔ wM x.Name = true ∧ aF (fun _ y => decide (y.Name = x.Name)) (l.take i) 0 = false ∧ qF x.Series = 0 ∧ 0 ≤ x.Long ∧ x.Long ≤ 1099511627776 := by
  unfold aCg
  cases wM x.Name
  · simp
  · cases aF (fun _ y => decide (y.Name = x.Name)) (l.take i) 0
    · by_cases hz : qF x.Series = 0
      · simp [hz]
      · simp [hz]
    · simp
theorem wG (e : Nat → fC → Int) : ∀ (l : List fC) (i : Nat) (r : Int × Int), bT (fun i x => if e i x = 0 then none else some (some ((i : Int), e i x))) (some (-1, 0)) l i = some r → (r.2 = 0 ↔ ∀ j x, l[j]? = some x → e (i + j) x = 0)
  | [], i, r, h => by cases h; simp
  | x :: l, i, r, h => by
    rw [bT] at h
    by_cases hz : e i x = 0
    · rw [if_pos hz] at h
      refine (wG e l (i + 1) r h).trans ?_
      constructor
      · intro q j y hy
        cases j with
        | zero => simp at hy; subst hy; simpa using hz
        | succ j => have := q j y (by simpa using hy); rwa [show i + (j + 1) = i + 1 + j by omega]
      · intro q j y hy; have := q (j + 1) y (by simpa using hy); rwa [show i + (j + 1) = i + 1 + j by omega] at this
    · rw [if_neg hz] at h
      have hr := Option.some.inj h
      subst hr
      constructor
      · intro q; exact absurd q hz
      · intro q; exact absurd (by simpa using q 0 x rfl) hz
theorem aDv (s : Series) : qF s = 0 ↔ (1 ≤ s.Den ∧ s.Den ≤ 1000000) ∧ s.Samples.length ≤ 20000 ∧ ∀ i x, s.Samples[i]? = some x → aAv s.Samples i x = 0 := by
  obtain ⟨r, hr⟩ := qZ s
  have e : qF s = r.2 := by unfold qF; rw [hr]; rfl
  rw [e]
  unfold aAz at hr
  split at hr
  · rename_i h
    cases hr
    simp only [Bool.not_eq_true', Bool.and_eq_false_iff, decide_eq_false_iff_not] at h
    constructor
    · intro h0; cases h0
    · rintro ⟨h1, _⟩; omega
  · rename_i h
    simp only [Bool.not_eq_true', Bool.and_eq_false_iff, decide_eq_false_iff_not] at h
    split at hr
    · rename_i h2
      simp only [decide_eq_true_eq] at h2
      cases hr
      constructor
      · intro h0; cases h0
      · rintro ⟨_, h1, _⟩; omega
    · rename_i h2
      simp only [decide_eq_true_eq] at h2
      have := wG (aAv s.Samples) s.Samples 0 r hr
      simp only [Nat.zero_add] at this
      rw [this]
      constructor
      · intro q; exact ⟨by omega, by omega, q⟩
      · intro q; exact q.2.2
end Go.Lf
namespace Go.Lf
section
variable {β:Type}
theorem aEq {body : (Int × Int → Option β) → Int × Int → Option β} (K n : Nat) (r : Option β)
    (hs : ∀ k (lo hi : Nat), lo < hi → hi ≤ n → lo ≤ K → K ≤ hi → body k ((lo : Int), (hi : Int)) = if (lo + hi) / 2 < K then k (((lo + hi) / 2 + 1 : Nat), (hi : Int)) else k ((lo : Int), ((lo + hi) / 2 : Nat)))
    (he : ∀ k, body k ((K : Int), (K : Int)) = r) : ∀ (m lo hi fu : Nat), hi - lo ≤ m → lo ≤ K → K ≤ hi → hi ≤ n → m < fu → fE body fu ((lo : Int), (hi : Int)) = r := by
  intro m
  induction m with
  | zero =>
    intro lo hi fu h1 h2 h3 h4 h5
    obtain ⟨f, rfl⟩ : ∃ f, fu = f + 1 := ⟨fu - 1, by omega⟩
    have e1 : lo = K := by omega
    have e2 : hi = K := by omega
    subst e1; subst e2
    exact he _
  | succ m ih =>
    intro lo hi fu h1 h2 h3 h4 h5
    obtain ⟨f, rfl⟩ : ∃ f, fu = f + 1 := ⟨fu - 1, by omega⟩
    by_cases h : lo < hi
    · show body (fE body f) _ = r
      rw [hs _ lo hi h h4 h2 h3]
      by_cases hc : (lo + hi) / 2 < K
      · rw [if_pos hc]; exact ih _ _ f (by omega) (by omega) h3 h4 (by omega)
      · rw [if_neg hc]; exact ih _ _ f (by omega) h2 (by omega) (by omega) (by omega)
    · have e1 : lo = K := by omega
      have e2 : hi = K := by omega
      subst e1; subst e2
      exact he _
end
def cnt {α:Type}(p:α→Bool)(l:List α):Nat:=(l.takeWhile p).length
theorem cnt_le {α:Type}(p:α→Bool): ∀l:List α,cnt p l≤l.length
  | []=>Nat.le_refl _
  | x :: l=>by
    unfold cnt
    rw [List.takeWhile_cons]
    cases p x
    · exact Nat.zero_le _
    · exact Nat.succ_le_succ (cnt_le p l)
theorem cnt_lt {α : Type} (p : α → Bool) : ∀ (l : List α) (_ : ∀ (i j : Nat) x y, l[i]? = some x → l[j]? = some y → i < j → p y = true → p x = true) (i : Nat) (x : α), l[i]? = some x → (p x = true ↔ i < cnt p l)
  | [], _, i, x, hx => by simp at hx
  | a :: l, hm, i, x, hx => by
    have ih := cnt_lt p l (fun i j x y h1 h2 h3 h4 => hm (i + 1) (j + 1) x y (by simpa using h1) (by simpa using h2) (by omega) h4)
    unfold cnt
    rw [List.takeWhile_cons]
    cases hp : p a with
    | false =>
      constructor
      · intro h
        cases i with
        | zero => simp at hx; subst hx; rw [hp] at h; cases h
        | succ i => have := hm 0 (i + 1) a x rfl hx (by omega) h; rw [hp] at this; cases this
      · intro h; simp at h
    | true =>
      cases i with
      | zero => simp at hx; subst hx; simp [hp]
      | succ i =>
        rw [if_pos rfl, List.length_cons, Nat.add_lt_add_iff_right]
        exact ih i x (by simpa using hx)
def Asc (l:List fC):Prop:= ∀(i j:Nat) x y,l[i]? =some x→l[j]? =some y→i<j→x.At<y.At
theorem asc_of {s : Series} (h : qF s = 0) : Asc s.Samples ∧ s.Samples.length ≤ 20000 ∧ ∀ (i : Nat) (x : fC), s.Samples[i]? = some x → 0 ≤ x.At ∧ x.At ≤ 1099511627776 := by
  obtain ⟨-, hl, hx⟩ := (aDv s).1 h
  have step : ∀ i x y, s.Samples[i]? = some x → s.Samples[i + 1]? = some y → x.At < y.At := by
    intro i x y h1 h2
    have q := hx (i + 1) y h2
    unfold aAv at q
    split at q
    · exact absurd q (by decide)
    · split at q
      · exact absurd q (by decide)
      · simp only [h1] at q
        by_cases c : y.At ≤ x.At
        · simp [c] at q
        · omega
  refine ⟨?_, hl, fun i x h1 => ?_⟩
  · intro i j x y h1 h2 hij
    obtain ⟨d, rfl⟩ : ∃ d, j = i + 1 + d := ⟨j - (i + 1), by omega⟩
    clear hij
    induction d generalizing y with
    | zero => exact step i x y h1 h2
    | succ d ih =>
      have hlt := (List.getElem?_eq_some_iff.1 h2).1
      obtain ⟨z, hz⟩ : ∃ z, s.Samples[i + 1 + d]? = some z := ⟨_, List.getElem?_eq_getElem (by omega)⟩
      have := ih z hz
      have := step (i + 1 + d) z y hz h2
      omega
  · have q := hx i x h1
    unfold aAv at q
    split at q
    · exact absurd q (by decide)
    · rename_i c
      simp only [Bool.or_eq_true, Bool.not_eq_true', Bool.and_eq_false_iff, decide_eq_false_iff_not, not_or, Decidable.not_not, not_and] at c
      by_cases c1 : 0 ≤ x.At
      · by_cases c2 : x.At ≤ 1099511627776
        · exact ⟨c1, c2⟩
        · simp [c2] at c
      · simp [c1] at c
def kLt (l:List fC)(t:Int):Nat:=cnt (fun x=>decide (x.At<t)) l
def kLe (l:List fC)(t:Int):Nat:=cnt (fun x=>decide (x.At≤t)) l
theorem rV {l:List fC}(ha:Asc l)(t:Int){i:Nat}{x:fC}(hx:l[i]? =some x):x.At<t↔i<kLt l t:=by
  have:=cnt_lt (fun x:fC=>decide (x.At<t)) l (fun i j x y h1 h2 h3 h4=>by have:=ha i j x y h1 h2 h3; simp only [decide_eq_true_eq] at *; omega) i x hx
  unfold kLt; simpa using this
theorem pY {l:List fC}(ha:Asc l)(t:Int){i:Nat}{x:fC}(hx:l[i]? =some x):x.At≤t↔i<kLe l t:=by
  have:=cnt_lt (fun x:fC=>decide (x.At≤t)) l (fun i j x y h1 h2 h3 h4=>by have:=ha i j x y h1 h2 h3; simp only [decide_eq_true_eq] at *; omega) i x hx
  unfold kLe; simpa using this
theorem mid_ok {l:List fC}{lo hi:Nat}(h:lo<hi)(hh:hi≤l.length): ∃x,l[(lo+hi) / 2]? =some x:=⟨_,List.getElem?_eq_getElem (by omega)⟩
theorem bsearch_eq (l : List fC) (t : Int) (ha : Asc l) (hl : l.length ≤ 20000) (hr : ∀ (i : Nat) (x : fC), l[i]? = some x → 0 ≤ x.At ∧ x.At ≤ 1099511627776) (ht : 0 ≤ t ∧ t ≤ 1099511627776) :
    Fb1 l t (0, (l.length : Int)) = some (kLt l t : Int) := by
  unfold Fb1 fF
  refine aEq (kLt l t) l.length _ ?_ ?_ l.length 0 l.length FU (by omega) (Nat.zero_le _) (cnt_le _ _) (Nat.le_refl _) (tX (by omega))
  · intro k lo hi h1 h2 h3 h4
    obtain ⟨x, hx⟩ := mid_ok h1 h2
    have e1 : IntKind.i64.wrap ((lo : Int) + (hi : Int)) = ((lo + hi : Nat) : Int) := by rw [Go.OB.wrap_i64 (by omega) (by omega)]; omega
    have e2 : IntKind.u64.wrap ((lo + hi : Nat) : Int) = ((lo + hi : Nat) : Int) := by rw [IntKind.wrap_u64]; omega
    have e3 : shr' .u64 ((lo + hi : Nat) : Int) 1 = some (((lo + hi) / 2 : Nat) : Int) := by
      unfold shr'
      rw [if_pos (by decide)]
      congr 1
    have e4 : IntKind.i64.wrap (((lo + hi) / 2 : Nat) : Int) = (((lo + hi) / 2 : Nat) : Int) := by rw [Go.OB.wrap_i64 (by omega) (by omega)]
    have e5 : IntKind.i64.wrap ((((lo + hi) / 2 : Nat) : Int) + 1) = (((lo + hi) / 2 + 1 : Nat) : Int) := aN (n := 20000) (by omega) (by omega)
    have hb := hr _ _ hx
    have e6 : Fai x t = some (x.At - t) := by
      unfold Fai
      rw [yA, Go.OB.wrap_i64 (by omega) (by omega)]
    simp only [yA, decide_eq_true (show (lo : Int) < (hi : Int) by omega), yR, e1, e2, e3, zM, e4, qV, hx, e6, e5, nI]
    have q := rV ha t hx
    by_cases c : (lo + hi) / 2 < kLt l t
    · rw [if_pos c, if_pos (by have := q.2 c; omega)]
    · rw [if_neg c, if_neg (by intro h; exact c (q.1 (by omega)))]
  · intro k
    simp only [yA, decide_eq_false (show ¬ ((kLt l t : Int) < (kLt l t : Int)) by omega), yY]
theorem aDb (s : Series) (t : Int) (ha : Asc s.Samples) (hl : s.Samples.length ≤ 20000) :
    Fby s t (0, (s.Samples.length : Int)) = some (kLe s.Samples t : Int) := by
  unfold Fby fF
  refine aEq (kLe s.Samples t) s.Samples.length _ ?_ ?_ s.Samples.length 0 s.Samples.length FU (by omega) (Nat.zero_le _) (cnt_le _ _) (Nat.le_refl _) (tX (by omega))
  · intro k lo hi h1 h2 h3 h4
    obtain ⟨x, hx⟩ := mid_ok h1 h2
    have e1 : IntKind.i64.wrap ((lo : Int) + (hi : Int)) = ((lo + hi : Nat) : Int) := by rw [Go.OB.wrap_i64 (by omega) (by omega)]; omega
    have e3 : quo' .i64 ((lo + hi : Nat) : Int) 2 = some (((lo + hi) / 2 : Nat) : Int) := by
      unfold quo'
      rw [if_neg (by omega), Int.tdiv_eq_ediv_of_nonneg (by omega), Go.OB.wrap_i64 (by omega) (by omega)]
      congr 1
    have e5 : IntKind.i64.wrap ((((lo + hi) / 2 : Nat) : Int) + 1) = (((lo + hi) / 2 + 1 : Nat) : Int) := aN (n := 20000) (by omega) (by omega)
    simp only [yA, decide_eq_true (show (lo : Int) < (hi : Int) by omega), yR, e1, e3, zM, qV, hx, e5, nI]
    have q := pY ha t hx
    by_cases c : (lo + hi) / 2 < kLe s.Samples t
    · rw [if_pos c, if_pos (q.2 c)]
    · rw [if_neg c, if_neg (fun h => c (q.1 h))]
  · intro k
    simp only [yA, decide_eq_false (show ¬ ((kLe s.Samples t : Int) < (kLe s.Samples t : Int)) by omega), yY]
theorem latest_eq (s : Series) (t : Int) (ha : Asc s.Samples) (hl : s.Samples.length ≤ 20000) (hr : ∀ (i : Nat) (x : fC), s.Samples[i]? = some x → 0 ≤ x.At ∧ x.At ≤ 1099511627776) (ht : 0 ≤ t ∧ t ≤ 1099511627776) :
    Fav s t = some ((kLe s.Samples t : Int) - 1) := by
  unfold Fav Fbu
  simp only [yA, bsearch_eq s.Samples t ha hl hr ht, zM]
  have hc1 := cnt_le (fun x : fC => decide (x.At < t)) s.Samples
  have hc2 := cnt_le (fun x : fC => decide (x.At ≤ t)) s.Samples
  change kLt s.Samples t ≤ _ at hc1
  change kLe s.Samples t ≤ _ at hc2
  have hw : ∀ n : Nat, n ≤ 20000 → IntKind.i64.wrap ((n : Int) - 1) = (n : Int) - 1 := fun n hn => Go.OB.wrap_i64 (by omega) (by omega)
  by_cases c : kLt s.Samples t < s.Samples.length
  · obtain ⟨x, hx⟩ : ∃ x, s.Samples[kLt s.Samples t]? = some x := ⟨_, List.getElem?_eq_getElem c⟩
    have hb := hr _ _ hx
    have q1 := rV ha t hx
    have q2 := pY ha t hx
    have e6 : Fai x t = some (x.At - t) := by
      unfold Fai
      rw [yA, Go.OB.wrap_i64 (by omega) (by omega)]
    simp only [decide_eq_true (show (kLt s.Samples t : Int) < (s.Samples.length : Int) by omega), yR, qV, hx, zM, e6]
    have nle : ∀ j y, s.Samples[j]? = some y → kLt s.Samples t < j → ¬ y.At ≤ t := by
      intro j y hy hj h
      have := ha _ _ _ _ hx hy hj
      have := q1
      omega
    by_cases e : x.At - t = 0
    · have hk : kLe s.Samples t = kLt s.Samples t + 1 := by
        have h1 := q2.1 (by omega)
        by_cases h2 : kLt s.Samples t + 1 < kLe s.Samples t
        · obtain ⟨y, hy⟩ : ∃ y, s.Samples[kLt s.Samples t + 1]? = some y := ⟨_, List.getElem?_eq_getElem (by omega)⟩
          exact absurd ((pY ha t hy).2 h2) (nle _ _ hy (by omega))
        · omega
      simp only [decide_eq_true e, yR]
      rw [hk]; congr 1; omega
    · have hk : kLe s.Samples t = kLt s.Samples t := by
        have h1 : ¬ kLt s.Samples t < kLe s.Samples t := fun h => by have := q2.2 h; have : ¬ x.At < t := fun h => by have := q1.1 h; omega
                                                                     omega
        by_cases h2 : kLe s.Samples t < kLt s.Samples t
        · obtain ⟨y, hy⟩ : ∃ y, s.Samples[kLe s.Samples t]? = some y := ⟨_, List.getElem?_eq_getElem (by omega)⟩
          have := (rV ha t hy).2 h2
          have := (pY ha t hy).1 (by omega)
          omega
        · omega
      simp only [decide_eq_false e, yY]
      rw [hk, hw _ (by omega)]
  · simp only [decide_eq_false (show ¬ (kLt s.Samples t : Int) < (s.Samples.length : Int) by omega), yY, zM]
    have hk : kLe s.Samples t = kLt s.Samples t := by
      by_cases h2 : kLe s.Samples t < kLt s.Samples t
      · obtain ⟨y, hy⟩ : ∃ y, s.Samples[kLe s.Samples t]? = some y := ⟨_, List.getElem?_eq_getElem (by omega)⟩
        have := (rV ha t hy).2 h2
        have := (pY ha t hy).1 (by omega)
        omega
      · omega
    rw [hk, hw _ (by omega)]
def hld (s:Series)(t g:Int):fC×Bool:=
  match kLe s.Samples t with
  | 0=>(fC.mk 0 0 0,false)
  | n+1=>match s.Samples[n]? with
    | some x=>if (!decide (3≤x.Mark)) || decide (g<IntKind.i64.wrap (t - x.At)) then (fC.mk 0 0 0,false) else (x,true)
    | none=>(fC.mk 0 0 0,false)
theorem Held_eq (s:Series)(t g:Int)(ha:Asc s.Samples)(hl:s.Samples.length≤20000)(hr: ∀(i:Nat) (x:fC),s.Samples[i]? =some x→0≤x.At∧x.At≤1099511627776)(ht:0≤t∧t≤1099511627776):
    Fam s t g=some (hld s t g):=by
  unfold Fam Fb2 hld
  have hc:=cnt_le (fun x:fC=>decide (x.At≤t)) s.Samples
  change kLe s.Samples t≤_ at hc
  rw [latest_eq s t ha hl hr ht]
  generalize kLe s.Samples t=n at *
  cases n with
  | zero=>rfl
  | succ n=>
    obtain ⟨x,hx⟩: ∃x,s.Samples[n]? =some x:=⟨_,List.getElem?_eq_getElem (by omega)⟩
    have e:(((n+1:Nat):Int) - 1)=(n:Int):=by omega
    simp only [zM,yA,e,decide_eq_false (show¬((n:Int)<0) by omega),yY,qV,hx,Fbj]
    generalize decide (3≤x.Mark)=a
    generalize decide (g<IntKind.i64.wrap (t - x.At))=b
    cases a<;>cases b<;>rfl
theorem rHeld_eq (s:Series)(t g:Int)(ha:Asc s.Samples)(hl:s.Samples.length≤20000):Fa0 s t g=some (hld s t g):=by
  unfold Fa0 hld
  have hc:=cnt_le (fun x:fC=>decide (x.At≤t)) s.Samples
  change kLe s.Samples t≤_ at hc
  simp only [yA,aDb s t ha hl,zM]
  generalize kLe s.Samples t=n at *
  cases n with
  | zero=>rfl
  | succ n=>
    obtain ⟨x,hx⟩: ∃x,s.Samples[n]? =some x:=⟨_,List.getElem?_eq_getElem (by omega)⟩
    have e:IntKind.i64.wrap (((n+1:Nat):Int) - 1)=(n:Int):=by rw [Go.OB.wrap_i64 (by omega) (by omega)]; omega
    simp only [decide_eq_false (show¬(((n+1:Nat):Int)=0) by omega),yY,e,qV,hx,zM,Fbq,yA]
    generalize decide (3≤x.Mark)=a
    generalize decide (g<IntKind.i64.wrap (t - x.At))=b
    cases a<;>cases b<;>rfl
end Go.Lf
