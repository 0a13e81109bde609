/- Names of the reference; series and tracks: both programs tell them alike. -/
import Derived.Test.YtgmikmoapfmedaaGreatDoorVn1
namespace Go.Lf
theorem aBo (s : Str) : Fa6 s = some (isW s) := by
  unfold Fa6 Fbv
  simp only [yF, zN, dY]
  change Fbz s kws (fun _ => some false) 0 = _
  unfold Fbz
  rw [dA kws (fun _ x => if decide (x = s) = true then some (some true) else none) (some false) (by decide)]
  · rw [jQ (fun _ x => decide (x = s))]
    have e : aS (fun _ x => decide (x = s)) kws 0 = isW s := by
      rw [Bool.eq_iff_iff, aBs]
      unfold isW
      simp only [decide_eq_true_eq]
      constructor
      · rintro ⟨j, x, h, rfl⟩; exact List.mem_of_getElem? h
      · intro h; obtain ⟨j, hj⟩ := List.getElem?_of_mem h; exact ⟨j, s, hj, rfl⟩
    rw [e]; cases isW s <;> rfl
  · intro kk i c hc hi
    simp only [yF]
    rw [dN hi, yY, bV hc, zN]
    cases decide (c = s)
    · simp only [xE]; rw [aI hi (by decide)]; rfl
    · rfl
  · intro kk; simp only [yF]; rw [dO]; rfl
def badR:Nat→UInt8→Bool:=fun i c=> !((decide (97≤(c.toNat:Int)) && decide ((c.toNat:Int)≤122)) || (decide (0<(i:Int)) && ((decide (48≤(c.toNat:Int)) && decide ((c.toNat:Int)≤57)) || decide ((c.toNat:Int)=45))))
theorem aDk (s : Str) (hs : okS s) (k : Unit → Option Bool) : Fce s k 0 = if aS badR s 0 = true then some false else k () := by
  unfold Fce
  rw [dA s (fun i c => if badR i c = true then some (some false) else none) (k ()) hs]
  · exact jQ badR (some false) (k ()) s 0
  · intro kk i c hc hi
    unfold badR
    simp only [yF]
    rw [dN hi, yY, tK hc, zN]
    rw [aI hi hs]
    cases decide (97 ≤ (c.toNat : Int)) <;> cases decide ((c.toNat : Int) ≤ 122) <;> cases decide (0 < (i : Int)) <;> cases decide (48 ≤ (c.toNat : Int)) <;> cases decide ((c.toNat : Int) ≤ 57) <;> cases decide ((c.toNat : Int) = 45) <;> rfl
  · intro kk; simp only [yF]; rw [dO]; rfl
theorem aDl (s:Str)(hs:okS s):Fa9 s=some (wU s):=by
  unfold Fa9 wU
  simp only [yF,zN,dY,aDk s hs,aBo]
  cases s with
  | nil=>rfl
  | cons c l=>
    have h2:decide (((c :: l).length:Int)≤30)=decide ((c :: l).length≤30):=decide_eq_decide.2 (by omega)
    have h5:decide ((c :: l)≠ [])=true:=by simp
    have e:aS badR l (0+1)=aS vS l (0+1):=tJ l (0+1) fun j x _=>by
      have:decide (0<((0+1+j:Nat):Int))=true:=decide_eq_true (by omega)
      unfold badR vS nmB
      rw [this]
      simp only [Bool.true_and,Bool.or_assoc]
    rw [aS,aS,e,h2,h5]
    have e2:badR 0 c= !(decide (97≤(c.toNat:Int)) && decide ((c.toNat:Int)≤122)):=by unfold badR; simp
    have e3:vS 0 c= !(qV (c :: l) || (decide (48≤(c.toNat:Int)) && decide ((c.toNat:Int)≤57)) || decide ((c.toNat:Int)=45)):=rfl
    have e4:badR 0 c= !qV (c :: l):=e2
    rw [e3,e4]
    cases qV (c :: l)<;>cases aS vS l (0+1)<;>cases decide ((c :: l).length≤30)<;>cases isW (c :: l)<;>simp [gQ,gG]
def aAy (l:List fF)(i:Nat)(x:fF):Int:=
  if !(decide (0≤x.At) && decide (x.At≤1099511627776)) || !(decide (-1125899906842624≤x.N) && decide (x.N≤1125899906842624)) || !(decide (0≤x.Mark) && decide (x.Mark≤4)) then 9
  else if decide (x.N≠0) && decide (x.Mark≤1) then 2
  else match i with
    | 0=>0
    | j+1=>match l[j]? with
      | some y=>if decide (x.At≤y.At) then 10 else 0
      | none=>0
def serF (l:List fF)(fin:Option (Int×Int)):Option (Int×Int):=dU (fun i x=>if aAy l i x=0 then none else some (some ((i:Int),aAy l i x))) fin l 0
theorem aBi {l:List fF}{i:Nat}(hi:i<l.length)(hl:l.length≤9223372036854775807)(h0:0<i): ∃y,l[i - 1]? =some y∧at' l (IntKind.i64.wrap ((i:Int) - 1))=some y:=by
  have h1:i - 1<l.length:=by omega
  refine ⟨l[i - 1],List.getElem?_eq_getElem h1,?_⟩
  rw [Go.OB.wrap_i64 (by omega) (by omega),show (i:Int) - 1=((i - 1:Nat):Int) by omega]
  exact bV (List.getElem?_eq_getElem h1)
theorem check_L1 (s : Series) (hs : s.Samples.length ≤ 9223372036854775807) (k : Unit → Option (Int × Int)) : Fcn s k (s.Samples.length : Int) 0 = serF s.Samples (k ()) := by
  unfold Fcn serF
  refine dA s.Samples _ (k ()) hs ?_ ?_
  · intro kk i x hx hi
    simp only [yF, aDw, zN]
    rw [dN hi, yY, bV hx, zN, aI hi hs]
    unfold aAy
    cases decide (0 ≤ x.At) <;> cases decide (x.At ≤ 1099511627776) <;> simp only [Bool.and_true, Bool.and_false, Bool.true_and, Bool.false_and, Bool.not_true, Bool.not_false, Bool.true_or, Bool.false_or, yY, xE, zN, if_true, Bool.false_eq_true, if_false] <;> try rfl
    cases decide (-1125899906842624 ≤ x.N) <;> cases decide (x.N ≤ 1125899906842624) <;> simp only [Bool.and_true, Bool.and_false, Bool.true_and, Bool.false_and, Bool.not_true, Bool.not_false, Bool.true_or, Bool.false_or, yY, xE, zN, if_true, Bool.false_eq_true, if_false] <;> try rfl
    cases decide (0 ≤ x.Mark) <;> cases decide (x.Mark ≤ 4) <;> simp only [Bool.and_true, Bool.and_false, Bool.true_and, Bool.false_and, Bool.not_true, Bool.not_false, Bool.true_or, Bool.false_or, yY, xE, zN, if_true, Bool.false_eq_true, if_false] <;> try rfl
    cases decide (x.N ≠ 0) <;> cases decide (x.Mark ≤ 1) <;> simp only [Bool.and_true, Bool.and_false, Bool.true_and, Bool.false_and, Bool.not_true, Bool.not_false, Bool.true_or, Bool.false_or, yY, xE, zN, if_true, Bool.false_eq_true, if_false] <;> try rfl
    all_goals
      cases i with
      | zero => rfl
      | succ j =>
        obtain ⟨y, h1, h2⟩ := aBi hi hs (by omega)
        have h3 : decide (0 < ((j + 1 : Nat) : Int)) = true := decide_eq_true (by omega)
        rw [h2, h3]
        simp only [Nat.add_sub_cancel] at h1
        simp only [yY, zN, h1]
        cases decide (x.At ≤ y.At) <;> rfl
  · intro kk; simp only [yF]; rw [dO]; rfl
theorem aAn (a b c:Int):(decide (a<b) || decide (c<a))= !(decide (b≤a) && decide (a≤c)):=by
  by_cases h1:b≤a<;>by_cases h2:a≤c<;>simp [h1,h2]<;>omega
theorem uQ (x:fF):Fbi x=some (if !(decide (0≤x.At) && decide (x.At≤1099511627776)) || !(decide (-1125899906842624≤x.N) && decide (x.N≤1125899906842624)) || !(decide (0≤x.Mark) && decide (x.Mark≤4)) then 9
    else if decide (x.N≠0) && decide (x.Mark≤1) then 2 else 0):=by
  unfold Fbi Fch
  simp only [yF,zN,out5,aAn,uT,uU]
  have h:(!decide (2≤x.Mark))=decide (x.Mark≤1):=by rw [← decide_not]; exact decide_eq_decide.2 (by omega)
  rw [h]
  cases (!(decide (0≤x.At) && decide (x.At≤1099511627776)))<;>cases (!(decide (-1125899906842624≤x.N) && decide (x.N≤1125899906842624)))<;>cases (!(decide (0≤x.Mark) && decide (x.Mark≤4)))<;>cases decide (x.N≠0)<;>cases decide (x.Mark≤1)<;>rfl
theorem fault_L1 (s : Series) (hs : s.Samples.length ≤ 9223372036854775807) (k : Unit → Option (Int × Int)) : Fcf s k 0 = serF s.Samples (k ()) := by
  unfold Fcf serF
  refine dA s.Samples _ (k ()) hs ?_ ?_
  · intro kk i x hx hi
    simp only [yF, uQ, zN]
    rw [dN hi, yY, bV hx, zN, aI hi hs]
    unfold aAy
    cases (!(decide (0 ≤ x.At) && decide (x.At ≤ 1099511627776)) || !(decide (-1125899906842624 ≤ x.N) && decide (x.N ≤ 1125899906842624)) || !(decide (0 ≤ x.Mark) && decide (x.Mark ≤ 4)))
    · cases (decide (x.N ≠ 0) && decide (x.Mark ≤ 1))
      · cases i with
        | zero => rfl
        | succ j =>
          obtain ⟨y, h1, h2⟩ := aBi hi hs (by omega)
          have h3 : decide (0 < ((j + 1 : Nat) : Int)) = true := decide_eq_true (by omega)
          rw [h2, h3]
          simp only [Nat.add_sub_cancel] at h1
          simp only [yY, zN, h1, Bool.false_eq_true, if_false]
          cases decide (x.At ≤ y.At) <;> rfl
      · rfl
    · rfl
  · intro kk; simp only [yF]; rw [dO]; rfl
def aBh (s:Series):Option (Int×Int):=if !(decide (1≤s.Den) && decide (s.Den≤1000000)) then some (-1,9) else if decide (20000<(s.Samples.length:Int)) then some (-1,3) else serF s.Samples (some (-1,0))
theorem check_eq (s:Series)(hs:s.Samples.length≤9223372036854775807):Fbs s=aBh s:=by
  unfold Fbs aBh
  simp only [yF,zN,aDw,dY,check_L1 s hs,jG]
theorem fault_eq (s:Series)(hs:s.Samples.length≤9223372036854775807):Fbe s=aBh s:=by
  unfold Fbe aBh
  simp only [yF,zN,out5,aAn,dY,fault_L1 s hs,jG]
theorem pX {α β:Type}{q:Nat→α→Option (Option β)}{fin:Option β}(hf: ∃r,fin=some r)(hq: ∀i x r,q i x=some r→ ∃y,r=some y): ∀(l:List α) (i:Nat),∃r,dU q fin l i=some r
  | [],i=>hf
  | x :: l,i=>by
    rw [dU]
    cases h:q i x with
    | none=>exact pX hf hq l (i+1)
    | some r=>exact hq i x r h
theorem aCa {β:Type}{p:Prop} [Decidable p] {y:β}{r:Option β}(h:(if p then none else some (some y))=some r): ∃z,r=some z:=by
  split at h
  · cases h
  · cases h; exact ⟨_,rfl⟩
theorem rO (s : Series) : ∃ r, aBh s = some r := by
  unfold aBh serF
  split
  · exact ⟨_, rfl⟩
  · split
    · exact ⟨_, rfl⟩
    · exact pX ⟨_, rfl⟩ (fun i x r h => aCa h) _ _
def qO (s:Series):Int:=((aBh s).getD (0,0)).2
theorem sCheck_eq (s:Series)(hs:s.Samples.length≤9223372036854775807):Fbn s=some (qO s):=by
  obtain ⟨r,hr⟩:=rO s
  unfold Fbn qO; rw [check_eq s hs,hr]; rfl
theorem rCheck_eq (s:Series)(hs:s.Samples.length≤9223372036854775807):Fbh s=some (qO s):=by
  obtain ⟨r,hr⟩:=rO s
  unfold Fbh qO; rw [fault_eq s hs,hr]; rfl
end Go.Lf
