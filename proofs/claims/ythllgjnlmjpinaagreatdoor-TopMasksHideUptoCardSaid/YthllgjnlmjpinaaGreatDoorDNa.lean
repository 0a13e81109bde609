/- Walks: what each function computes, for every argument; no condition but those that stand in the statements. -/
import Derived.Test.YthllgjnlmjpinaaGreatDoorUP
import Derived.Test.YthllgjnlmjpinaaGreatDoorLfQ
import Derived.Test.YthllgjnlmjpinaaGreatDoorPLb
namespace Go.Lf
open Go.OB
def aBk (x:gZ):Prop:=i64 x.At∧i64 x.N∧i64 x.Mark
def aQa (x:Series):Prop:=i64 x.Den∧okL (fun x=>aBk x) x.Samples
def aAb (x:Track):Prop:=okS x.Name∧aQa x.Series∧i64 x.Long
def bJ (x:Flight):Prop:=okS x.Tail∧okS x.Route∧i64 x.Day∧i64 x.From∧i64 x.To∧okL (fun x=>aAb x) x.Tracks
def aLp (x:eY):Prop:=okS x.Track∧i64 x.N
end Go.Lf
namespace Go.Lf
def kws:List Str:=[[112,104,97,115,101],[109,111,118,101],[114,117,108,101],[105,102],[111,114],[97,110,100],[116,114,117,101],[102,97,108,115,101],[115,116,101,97,100,121],[110,111,116],[102,111,114],[119,105,116,104,105,110],[99,111,117,110,116],[111,102],[114,105,115,101,115],[115,105,110,99,101]]
theorem aCk (a b c:Int):Fai a b c=some (decide (b≤a) && decide (a≤c)):=by
 unfold Fai; simp only [zM,rE,zI]
theorem pY (a b c:Int):Fac a b c=some (decide (b≤a) && decide (a≤c)):=by
 unfold Fac; simp only [zM,rE,zI]
theorem aTg (a b c:Int):Fa1 a b c=some (decide (b≤a) && decide (a≤c)):=by
 unfold Fa1; simp only [zM,rE,zI]
theorem out9 (a b c:Int):Fbb a b c=some (decide (a<b) || decide (c<a)):=by
 unfold Fbb; simp only [zM,aY,zI]
theorem out5 (a b c:Int):Fbc a b c=some (decide (a<b) || decide (c<a)):=by
 unfold Fbc; simp only [zM,aY,zI]
theorem out6 (a b c:Int):Fc7 a b c=some (decide (a<b) || decide (c<a)):=by
 unfold Fc7; simp only [zM,aY,zI]
def isW (s:Str):Bool:=decide (s ∈ kws)
theorem isWord_eq (s:Str):Fc3 s=some (isW s):=by
 unfold Fc3 isW kws;simp only [zM,aFx,zI,iteB_id,List.mem_cons,List.not_mem_nil,or_false,Bool.decide_or]
def nmB (c:Int):Bool:=(decide (97≤c) && decide (c≤122)) || (decide (48≤c) && decide (c≤57)) || decide (c=45)
theorem aOm (c:Int):Fdq c=some (nmB c):=by
 unfold Fdq nmB;simp only [zM,zI];cases decide (97≤c)<;>cases decide (c≤122)<;>cases decide (48≤c)<;>cases decide (c≤57)<;>cases decide (c=45)<;>rfl
def aIr:Nat→UInt8→Bool:=fun _ c=> !nmB (c.toNat:Int)
theorem isName_L1 (s : Str) (hs : okS s) (k : Unit → Option Bool) : Fez s k (s.length : Int) 0 = if bV aIr s 0 = true then some false else k () := by
 unfold Fez;rw [xU s (fun i c => if aIr i c = true then some (some false) else none) (k ()) hs];exact qH aIr (some false) (k ()) s 0;intro kk i c hc hi;unfold aIr;simp only [zM];rw [xE hi, yF, aIk hc, zI, aOm, zI];cases nmB (c.toNat : Int);rfl;simp only [Bool.not_true, yE]; rw [eH hi hs]; rfl;intro kk; simp only [zM]; rw [xH]; rfl
def aDa (s:Str):Bool:=match s with
  | []=>false
  | c :: _=>decide (97≤(c.toNat:Int)) && decide ((c.toNat:Int)≤122)
def kQ (s:Str):Bool:=decide (s.length≤30) && aDa s && !isW s && !bV aIr s 0
theorem kH (s:Str)(hs:okS s):Fal s=some (kQ s):=by
  unfold Fal kQ
  simp only [zM,zI,aCk,xX,isName_L1 s hs,isWord_eq]
  cases s with
  | nil=>rfl
  | cons c l=>
    have h0:byte' (c :: l) 0=some (c.toNat:Int):=aIk (i:=0) rfl
    have h1:decide ((1:Int)≤((c :: l).length:Int))=true:=decide_eq_true (by simp; omega)
    have h2:decide (((c :: l).length:Int)≤30)=decide ((c :: l).length≤30):=decide_eq_decide.2 (by omega)
    have h3:decide ((c.toNat:Int)<97)= !decide (97≤(c.toNat:Int)):=by rw [← decide_not]; exact decide_eq_decide.2 (by omega)
    have h4:decide (122<(c.toNat:Int))= !decide ((c.toNat:Int)≤122):=by rw [← decide_not]; exact decide_eq_decide.2 (by omega)
    rw [h0,h1,h2]
    simp only [zI,Bool.true_and,h3,h4,aDa]
    cases decide ((c :: l).length≤30)<;>cases decide (97≤(c.toNat:Int))<;>cases decide ((c.toNat:Int)≤122)<;>cases isW (c :: l)<;>cases bV aIr (c :: l) 0<;>rfl
theorem sJ (s:Str)(hs:okS s):Fax s=some (kQ s):=by
 unfold Fax; rw [kH s hs]; rfl
end Go.Lf
namespace Go.Lf
theorem aNg (s : Str) : Fdy s = some (isW s) := by
  unfold Fdy Ffv
  simp only [zM, zI, xX]
  change Ffb s kws (fun _ => some false) 0 = _
  unfold Ffb
  rw [xU kws (fun _ x => if decide (x = s) = true then some (some true) else none) (some false) (by decide)]
  · rw [qH (fun _ x => decide (x = s))]
    have e : bV (fun _ x => decide (x = s)) kws 0 = isW s := by
      rw [Bool.eq_iff_iff, qP]
      unfold isW
      simp only [decide_eq_true_eq]
      constructor
      · rintro ⟨j, x, h, rfl⟩; exact List.mem_of_getElem? h
      · intro h; obtain ⟨j, hj⟩ := List.getElem?_of_mem h; exact ⟨j, s, hj, rfl⟩
    rw [e]; cases isW s <;> rfl
  · intro kk i c hc hi
    simp only [zM]
    rw [xE hi, yF, xQ hc, zI]
    cases decide (c = s)
    · simp only [yE]; rw [eH hi (by decide)]; rfl
    · rfl
  · intro kk; simp only [zM]; rw [xH]; rfl
def badR:Nat→UInt8→Bool:=fun i c=> !((decide (97≤(c.toNat:Int)) && decide ((c.toNat:Int)≤122)) || (decide (0<(i:Int)) && ((decide (48≤(c.toNat:Int)) && decide ((c.toNat:Int)≤57)) || decide ((c.toNat:Int)=45))))
theorem aRp (s : Str) (hs : okS s) (k : Unit → Option Bool) : Feu s k 0 = if bV badR s 0 = true then some false else k () := by
 unfold Feu;rw [xU s (fun i c => if badR i c = true then some (some false) else none) (k ()) hs];exact qH badR (some false) (k ()) s 0;intro kk i c hc hi;unfold badR;simp only [zM];rw [xE hi, yF, aIk hc, zI];rw [eH hi hs];cases decide (97 ≤ (c.toNat : Int)) <;> cases decide ((c.toNat : Int) ≤ 122) <;> cases decide (0 < (i : Int)) <;> cases decide (48 ≤ (c.toNat : Int)) <;> cases decide ((c.toNat : Int) ≤ 57) <;> cases decide ((c.toNat : Int) = 45) <;> rfl;intro kk; simp only [zM]; rw [xH]; rfl
theorem qO (s:Str)(hs:okS s):Faw s=some (kQ s):=by
  unfold Faw kQ
  simp only [zM,zI,xX,aRp s hs,aNg]
  cases s with
  | nil=>rfl
  | cons c l=>
    have h2:decide (((c :: l).length:Int)≤30)=decide ((c :: l).length≤30):=decide_eq_decide.2 (by omega)
    have h5:decide ((c :: l)≠ [])=true:=by simp
    have e:bV badR l (0+1)=bV aIr l (0+1):=aHy l (0+1) fun j x _=>by
      have:decide (0<((0+1+j:Nat):Int))=true:=decide_eq_true (by omega)
      unfold badR aIr nmB
      rw [this]
      simp only [Bool.true_and,Bool.or_assoc]
    rw [bV,bV,e,h2,h5]
    have e2:badR 0 c= !(decide (97≤(c.toNat:Int)) && decide ((c.toNat:Int)≤122)):=by unfold badR; simp
    have e3:aIr 0 c= !(aDa (c :: l) || (decide (48≤(c.toNat:Int)) && decide ((c.toNat:Int)≤57)) || decide ((c.toNat:Int)=45)):=rfl
    have e4:badR 0 c= !aDa (c :: l):=e2
    rw [e3,e4]
    cases aDa (c :: l)<;>cases bV aIr l (0+1)<;>cases decide ((c :: l).length≤30)<;>cases isW (c :: l)<;>simp [gU,gG]
def aGg (l:List gZ)(i:Nat)(x:gZ):Int:=
  if !(decide (0≤x.At) && decide (x.At≤1099511627776)) || !(decide (-1125899906842624≤x.N) && decide (x.N≤1125899906842624)) || !(decide (0≤x.Mark) && decide (x.Mark≤4)) then 9
  else if decide (x.N≠0) && decide (x.Mark≤1) then 2
  else match i with
    | 0=>0
    | j+1=>match l[j]? with
      | some y=>if decide (x.At≤y.At) then 10 else 0
      | none=>0
def serF (l:List gZ)(fin:Option (Int×Int)):Option (Int×Int):=dC (fun i x=>if aGg l i x=0 then none else some (some ((i:Int),aGg l i x))) fin l 0
theorem aMv {l:List gZ}{i:Nat}(hi:i<l.length)(hl:l.length≤9223372036854775807)(h0:0<i): ∃y,l[i - 1]? =some y∧at' l (IntKind.i64.wrap ((i:Int) - 1))=some y:=by
 have h1:i - 1<l.length:=by omega
 refine ⟨l[i - 1],List.getElem?_eq_getElem h1,?_⟩;rw [Go.OB.wrap_i64 (by omega) (by omega),show (i:Int) - 1=((i - 1:Nat):Int) by omega];exact xQ (List.getElem?_eq_getElem h1)
theorem check_L1 (s : Series) (hs : s.Samples.length ≤ 9223372036854775807) (k : Unit → Option (Int × Int)) : Fe0 s k (s.Samples.length : Int) 0 = serF s.Samples (k ()) := by
  unfold Fe0 serF
  refine xU s.Samples _ (k ()) hs ?_ ?_
  · intro kk i x hx hi
    simp only [zM, aTg, zI]
    rw [xE hi, yF, xQ hx, zI, eH hi hs]
    unfold aGg
    cases decide (0 ≤ x.At) <;> cases decide (x.At ≤ 1099511627776) <;> simp only [Bool.and_true, Bool.and_false, Bool.true_and, Bool.false_and, Bool.not_true, Bool.not_false, Bool.true_or, Bool.false_or, yF, yE, zI, if_true, Bool.false_eq_true, if_false] <;> try rfl
    cases decide (-1125899906842624 ≤ x.N) <;> cases decide (x.N ≤ 1125899906842624) <;> simp only [Bool.and_true, Bool.and_false, Bool.true_and, Bool.false_and, Bool.not_true, Bool.not_false, Bool.true_or, Bool.false_or, yF, yE, zI, if_true, Bool.false_eq_true, if_false] <;> try rfl
    cases decide (0 ≤ x.Mark) <;> cases decide (x.Mark ≤ 4) <;> simp only [Bool.and_true, Bool.and_false, Bool.true_and, Bool.false_and, Bool.not_true, Bool.not_false, Bool.true_or, Bool.false_or, yF, yE, zI, if_true, Bool.false_eq_true, if_false] <;> try rfl
    cases decide (x.N ≠ 0) <;> cases decide (x.Mark ≤ 1) <;> simp only [Bool.and_true, Bool.and_false, Bool.true_and, Bool.false_and, Bool.not_true, Bool.not_false, Bool.true_or, Bool.false_or, yF, yE, zI, if_true, Bool.false_eq_true, if_false] <;> try rfl
    all_goals
      cases i with
      | zero => rfl
      | succ j =>
        obtain ⟨y, h1, h2⟩ := aMv hi hs (by omega)
        have h3 : decide (0 < ((j + 1 : Nat) : Int)) = true := decide_eq_true (by omega)
        rw [h2, h3]
        simp only [Nat.add_sub_cancel] at h1
        simp only [yF, zI, h1]
        cases decide (x.At ≤ y.At) <;> rfl
  · intro kk; simp only [zM]; rw [xH]; rfl
theorem aAc (a b c:Int):(decide (a<b) || decide (c<a))= !(decide (b≤a) && decide (a≤c)):=by
 by_cases h1:b≤a<;>by_cases h2:a≤c<;>simp [h1,h2]<;>omega
theorem aGc (x:gZ):Fc9 x=some (if !(decide (0≤x.At) && decide (x.At≤1099511627776)) || !(decide (-1125899906842624≤x.N) && decide (x.N≤1125899906842624)) || !(decide (0≤x.Mark) && decide (x.Mark≤4)) then 9
    else if decide (x.N≠0) && decide (x.Mark≤1) then 2 else 0):=by
 unfold Fc9 Fet;simp only [zM,zI,out5,aAc,aY,rE];have h:(!decide (2≤x.Mark))=decide (x.Mark≤1):=by rw [← decide_not]; exact decide_eq_decide.2 (by omega)
 rw [h];cases (!(decide (0≤x.At) && decide (x.At≤1099511627776)))<;>cases (!(decide (-1125899906842624≤x.N) && decide (x.N≤1125899906842624)))<;>cases (!(decide (0≤x.Mark) && decide (x.Mark≤4)))<;>cases decide (x.N≠0)<;>cases decide (x.Mark≤1)<;>rfl
theorem fault_L1 (s : Series) (hs : s.Samples.length ≤ 9223372036854775807) (k : Unit → Option (Int × Int)) : Fef s k 0 = serF s.Samples (k ()) := by
  unfold Fef serF
  refine xU s.Samples _ (k ()) hs ?_ ?_
  · intro kk i x hx hi
    simp only [zM, aGc, zI]
    rw [xE hi, yF, xQ hx, zI, eH hi hs]
    unfold aGg
    cases (!(decide (0 ≤ x.At) && decide (x.At ≤ 1099511627776)) || !(decide (-1125899906842624 ≤ x.N) && decide (x.N ≤ 1125899906842624)) || !(decide (0 ≤ x.Mark) && decide (x.Mark ≤ 4)))
    · cases (decide (x.N ≠ 0) && decide (x.Mark ≤ 1))
      · cases i with
        | zero => rfl
        | succ j =>
          obtain ⟨y, h1, h2⟩ := aMv hi hs (by omega)
          have h3 : decide (0 < ((j + 1 : Nat) : Int)) = true := decide_eq_true (by omega)
          rw [h2, h3]
          simp only [Nat.add_sub_cancel] at h1
          simp only [yF, zI, h1, Bool.false_eq_true, if_false]
          cases decide (x.At ≤ y.At) <;> rfl
      · rfl
    · rfl
  · intro kk; simp only [zM]; rw [xH]; rfl
def aOi (s:Series):Option (Int×Int):=if !(decide (1≤s.Den) && decide (s.Den≤1000000)) then some (-1,9) else if decide (20000<(s.Samples.length:Int)) then some (-1,3) else serF s.Samples (some (-1,0))
theorem check_eq (s:Series)(hs:s.Samples.length≤9223372036854775807):Fd5 s=aOi s:=by
 unfold Fd5 aOi;simp only [zM,zI,aTg,xX,check_L1 s hs,bU]
theorem fault_eq (s:Series)(hs:s.Samples.length≤9223372036854775807):Fdb s=aOi s:=by
 unfold Fdb aOi;simp only [zM,zI,out5,aAc,xX,fault_L1 s hs,bU]
theorem rC {α β:Type}{q:Nat→α→Option (Option β)}{fin:Option β}(hf: ∃r,fin=some r)(hq: ∀i x r,q i x=some r→ ∃y,r=some y): ∀(l:List α) (i:Nat),∃r,dC q fin l i=some r
  | [],i=>hf
  | x :: l,i=>by
    rw [dC]
    cases h:q i x with
    | none=>exact rC hf hq l (i+1)
    | some r=>exact hq i x r h
theorem aBz {β:Type}{p:Prop} [Decidable p] {y:β}{r:Option β}(h:(if p then none else some (some y))=some r): ∃z,r=some z:=by
 split at h;cases h;cases h; exact ⟨_,rfl⟩
theorem aDo (s : Series) : ∃ r, aOi s = some r := by
 unfold aOi serF;split;exact ⟨_, rfl⟩;split;exact ⟨_, rfl⟩;exact rC ⟨_, rfl⟩ (fun i x r h => aBz h) _ _
def nD (s:Series):Int:=((aOi s).getD (0,0)).2
theorem sCheck_eq (s:Series)(hs:s.Samples.length≤9223372036854775807):Fcf s=some (nD s):=by
 obtain ⟨r,hr⟩:=aDo s;unfold Fcf nD; rw [check_eq s hs,hr]; rfl
theorem rCheck_eq (s:Series)(hs:s.Samples.length≤9223372036854775807):Fcb s=some (nD s):=by
 obtain ⟨r,hr⟩:=aDo s;unfold Fcb nD; rw [fault_eq s hs,hr]; rfl
end Go.Lf
namespace Go.Lf
theorem aBi {α:Type}(p:Nat→α→Bool): ∀(l:List α) (i:Nat),∃n,dC (fun i x=>if p i x=true then some (some (i:Int)) else none) (some (-1)) l i=some n∧decide (0≤n)=bV p l i
  | [],i=>⟨-1,rfl,rfl⟩
  | x :: l,i=>by
    rw [dC,bV]
    cases h:p i x with
    | true=>exact ⟨i,rfl,by simp⟩
    | false=>simpa using aBi p l (i+1)
theorem contT_eq (l : List Track) (c : Track) (hl : l.length ≤ 9223372036854775807) : Fcq l c = some (bV (fun _ y => decide (y.Name = c.Name)) l 0) := by
  obtain ⟨n, h1, h2⟩ := aBi (fun (_ : Nat) (y : Track) => decide (y.Name = c.Name)) l 0
  have e : Fcg l c = some n := by
    unfold Fcg
    simp only [zM, xX]
    unfold Fgs
    rw [← h1]
    refine xU l _ _ hl ?_ ?_
    · intro kk i x hx hi
      unfold Fe9
      simp only [zM, zI]
      rw [xE hi, yF, xQ hx, zI, eH hi hl]
      cases decide (x.Name = c.Name) <;> rfl
    · intro kk; simp only [zM]; rw [xH]; rfl
  unfold Fcq
  rw [e]
  simp only [zM, zI, h2]
def aPb (l:List Track)(i:Nat)(x:Track):Int:=
  if !kQ x.Name then 8 else if bV (fun _ y=>decide (y.Name=x.Name)) (l.take i) 0 then 5
  else if nD x.Series≠0 then nD x.Series else if !(decide (0≤x.Long) && decide (x.Long≤1099511627776)) then 9 else 0
def aLh (l:List Track):Option Int:=if decide (50<(l.length:Int)) then some 3 else dC (fun i x=>if aPb l i x=0 then none else some (some (aPb l i x))) (some 0) l 0
theorem aHw {l:List Track}(h:okL aAb l){i:Nat}{x:Track}(hx:l[i]? =some x):okS x.Name∧x.Series.Samples.length≤9223372036854775807:=by
 have:=h.2 x (List.mem_of_getElem? hx);exact ⟨this.1,this.2.1.2.1⟩
theorem aGo (l : List Track) (h : okL aAb l) : Fdt l = aLh l := by
 unfold Fdt aLh;simp only [zM, xX, bU];congr 1;unfold Fgc;refine xU l _ _ h.1 ?_ ?_;intro kk i x hx hi;obtain ⟨o1, o2⟩ := aHw h hx;simp only [zM];rw [xE hi, yF, xQ hx, zI, kH _ o1, zI, aMg l (by omega), eH hi h.1];simp only [zI, contT_eq (l.take i) x (by have := h.1; simp; omega), sCheck_eq _ o2, aCk];unfold aPb;cases kQ x.Name;rfl;cases bV (fun _ y => decide (y.Name = x.Name)) (l.take i) 0;simp only [Bool.not_true, yE, Bool.false_eq_true, if_false, wB, bU];by_cases hz : nD x.Series = 0;cases (decide (0 ≤ x.Long) && decide (x.Long ≤ 1099511627776)) <;> simp [hz];simp [hz];rfl;intro kk; simp only [zM]; rw [xH]; rfl
theorem aRj (l : List Track) (hl : l.length ≤ 9223372036854775807) {i : Nat} {x : Track} (hx : l[i]? = some x) (k : Unit → Option Int) : Fe8 l (i : Int) k 0 = if bV (fun _ y => decide (y.Name = x.Name)) (l.take i) 0 = true then some 5 else k () := by
 have hi := (List.getElem?_eq_some_iff.1 hx).1;have ht : (l.take i).length = i := by rw [List.length_take]; exact Nat.min_eq_left (Nat.le_of_lt hi)
 have hm : (l.take i).length ≤ 9223372036854775807 := by rw [ht]; exact Nat.le_trans (Nat.le_of_lt hi) hl
 have e := qH (fun _ y => decide (y.Name = x.Name)) (some 5) (k ()) (l.take i) 0;rw [← e];unfold Fe8;refine xU (l.take i) _ (k ()) hm ?_ ?_;intro kk j y hy hj;rw [ht] at hj;have hy' : l[j]? = some y := by rw [List.getElem?_take, if_pos hj] at hy; exact hy
 simp only [zM];rw [xE hj, yF, xQ hy', zI, xQ hx, zI, eH (n := l.length) (Nat.lt_trans hj hi) hl];cases decide (y.Name = x.Name);rfl;rfl;intro kk;rw [ht];simp only [zM, xH, yE]
theorem aFb (l : List Track) (h : okL aAb l) : Fde l = aLh l := by
 unfold Fde aLh;simp only [zM, xX, bU];congr 1;unfold Fgj;refine xU l _ _ h.1 ?_ ?_;intro kk i x hx hi;obtain ⟨o1, o2⟩ := aHw h hx;simp only [zM, xX];rw [xE hi, yF, xQ hx, zI, qO _ o1, zI, aRj l h.1 hx, eH hi h.1];simp only [zI, rCheck_eq _ o2, out6, aAc];unfold aPb;cases kQ x.Name;rfl;cases bV (fun _ y => decide (y.Name = x.Name)) (l.take i) 0;simp only [Bool.not_true, yE, Bool.false_eq_true, if_false, wB, bU];by_cases hz : nD x.Series = 0;cases (decide (0 ≤ x.Long) && decide (x.Long ≤ 1099511627776)) <;> simp [hz];simp [hz];rfl;intro kk; simp only [zM]; rw [xH]; rfl
theorem trkF_some (l:List Track): ∃r,aLh l=some r:=by
 unfold aLh;split;exact ⟨_,rfl⟩;exact rC ⟨_,rfl⟩ (fun i x r h=>aBz h) _ _
end Go.Lf
namespace Go.Lf
def aDi (l:List Track):Int:=(aLh l).getD 0
theorem aKv (l:List Track):aLh l=some (aDi l):=by obtain ⟨r,h⟩:=trkF_some l; unfold aDi; rw [h]; rfl
def qA (f:Flight):Int:=
  if (decide (f.Tail≠ []) && !kQ f.Tail) || !kQ f.Route then 8
  else if !(decide (0≤f.Day) && decide (f.Day≤1000000)) || decide (f.From<0) || decide (f.To<f.From) || decide (4194304≤f.To) then 9
  else if decide (20000<IntKind.i64.wrap (IntKind.i64.wrap (f.To - f.From)+1)) || decide (30<(f.Tracks.length:Int)) then 3
  else aDi f.Tracks
theorem aIe (f:Flight)(h:bJ f):Fdu f=some (qA f):=by
 unfold Fdu qA;simp only [zM,sJ _ h.1,sJ _ h.2.1,pY,aGo _ h.2.2.2.2.2,aKv,zI,aY];cases decide (f.Tail≠ [])<;>cases kQ f.Tail<;>cases kQ f.Route<;>simp only [yF,yE,zI,Bool.not_true,Bool.not_false,Bool.and_true,Bool.and_false,Bool.or_true,Bool.or_false,if_true,Bool.false_eq_true,if_false,bU,Bool.or_assoc]<;>(repeat' split)<;>rfl
theorem aEz (f:Flight)(h:bJ f):Fck f=some (qA f):=by
 have e:decide (4194303<f.To)=decide (4194304≤f.To):=decide_eq_decide.2 (by omega);unfold Fck qA;simp only [zM,qO _ h.1,qO _ h.2.1,out9,aAc,aFb _ h.2.2.2.2.2,aKv,zI,aY,e];cases decide (f.Tail≠ [])<;>cases kQ f.Tail<;>cases kQ f.Route<;>simp only [yF,yE,zI,Bool.not_true,Bool.not_false,Bool.and_true,Bool.and_false,Bool.or_true,Bool.or_false,if_true,Bool.false_eq_true,if_false,bU,Bool.or_assoc]<;>(repeat' split)<;>rfl
structure Good (f:Flight):Prop where
  tail:f.Tail= []∨kQ f.Tail=true
  route:kQ f.Route=true
  day:0≤f.Day∧f.Day≤1000000
  frm:0≤f.From∧f.From≤f.To∧f.To<4194304
  span:f.To - f.From+1≤20000
  many:f.Tracks.length≤30
  trk:aDi f.Tracks=0
theorem aCv {f : Flight} (h : qA f = 0) : Good f := by
 unfold qA at h;split at h;cases h;split at h;cases h;split at h;cases h;rename_i h1 h2 h3;simp only [Bool.or_eq_true, Bool.and_eq_true, Bool.not_eq_true', decide_eq_true_eq, not_or, not_and, Bool.not_eq_false, Bool.and_eq_false_iff, decide_eq_false_iff_not] at h1 h2 h3;obtain ⟨⟨⟨h4, h5⟩, h6⟩, h7⟩ := h2;have h5 : 0 ≤ f.From := by omega
 have w1 : IntKind.i64.wrap (f.To - f.From) = f.To - f.From := Go.OB.wrap_i64 (by omega) (by omega);rw [w1, Go.OB.wrap_i64 (by omega) (by omega)] at h3;refine ⟨?_, h1.2, ⟨by omega, by omega⟩, ⟨by omega, by omega, by omega⟩, by omega, by omega, h⟩;by_cases ht : f.Tail = [];exact .inl ht;exact .inr (h1.1 ht)
theorem good_iff {f : Flight} (g : Good f) : qA f = 0 := by
  unfold qA
  have w1 : IntKind.i64.wrap (f.To - f.From) = f.To - f.From := by have := g.frm; exact Go.OB.wrap_i64 (by omega) (by omega)
  have w2 : IntKind.i64.wrap (f.To - f.From + 1) = f.To - f.From + 1 := by have := g.frm; exact Go.OB.wrap_i64 (by omega) (by omega)
  have g1 := g.day; have g2 := g.frm; have g3 := g.span; have g4 := g.many
  rw [w1, w2]
  rw [if_neg, if_neg, if_neg]
  · exact g.trk
  · simp only [Bool.or_eq_true, decide_eq_true_eq, not_or]; omega
  · simp only [Bool.or_eq_true, Bool.not_eq_true', Bool.and_eq_false_iff, decide_eq_false_iff_not, decide_eq_true_eq, not_or]; omega
  · rcases g.tail with h | h
    · simp [h, g.route]
    · simp [h, g.route]
end Go.Lf
namespace Go.Lf
theorem aAw {α : Type} (e : Nat → α → Int) : ∀ (l : List α) (i : Nat), dC (fun i x => if e i x = 0 then none else some (some (e i x))) (some 0) l i = some 0 ↔ ∀ j x, l[j]? = some x → e (i + j) x = 0
  | [], i => by simp [dC]
  | x :: l, i => by
    rw [dC]
    by_cases h : e i x = 0
    · rw [if_pos h]
      refine (aAw e l (i + 1)).trans ?_
      constructor
      · intro q j y hy
        cases j with
        | zero => simp at hy; subst hy; simpa using h
        | succ j => have := q j y (by simpa using hy); rwa [show i + (j + 1) = i + 1 + j by omega]
      · intro q j y hy; have := q (j + 1) y (by simpa using hy); rwa [show i + (j + 1) = i + 1 + j by omega] at this
    · rw [if_neg h]
      constructor
      · intro q; exact absurd (Option.some.inj q) h
      · intro q; exact absurd (by simpa using q 0 x rfl) h
theorem wZ (l : List Track) : aDi l = 0 ↔ l.length ≤ 50 ∧ ∀ i x, l[i]? = some x → aPb l i x = 0 := by
 have e := aKv l;unfold aLh at e;split at e;rename_i h;simp only [decide_eq_true_eq] at h;have := Option.some.inj e;constructor;intro h0; omega;intro h0; omega;rename_i h;simp only [decide_eq_true_eq] at h;have f := aAw (aPb l) l 0;simp only [Nat.zero_add] at f;rw [e] at f;constructor;intro h0; exact ⟨by omega, f.1 (by rw [h0])⟩;rintro ⟨_, h0⟩; exact Option.some.inj (f.2 h0)
theorem pJ (l : List Track) (i : Nat) (x : Track) : aPb l i x = 0 ↔ kQ x.Name = true ∧ bV (fun _ y => decide (y.Name = x.Name)) (l.take i) 0 = false ∧ nD x.Series = 0 ∧ 0 ≤ x.Long ∧ x.Long ≤ 1099511627776 := by
 unfold aPb;cases kQ x.Name;simp;cases bV (fun _ y => decide (y.Name = x.Name)) (l.take i) 0;by_cases hz : nD x.Series = 0;simp [hz];simp [hz];simp
theorem aJx (e : Nat → gZ → Int) : ∀ (l : List gZ) (i : Nat) (r : Int × Int), dC (fun i x => if e i x = 0 then none else some (some ((i : Int), e i x))) (some (-1, 0)) l i = some r → (r.2 = 0 ↔ ∀ j x, l[j]? = some x → e (i + j) x = 0)
  | [], i, r, h => by cases h; simp
  | x :: l, i, r, h => by
    rw [dC] at h
    by_cases hz : e i x = 0
    · rw [if_pos hz] at h
      refine (aJx e l (i + 1) r h).trans ?_
      constructor
      · intro q j y hy
        cases j with
        | zero => simp at hy; subst hy; simpa using hz
        | succ j => have := q j y (by simpa using hy); rwa [show i + (j + 1) = i + 1 + j by omega]
      · intro q j y hy; have := q (j + 1) y (by simpa using hy); rwa [show i + (j + 1) = i + 1 + j by omega] at this
    · rw [if_neg hz] at h
      have hr := Option.some.inj h
      subst hr
      constructor
      · intro q; exact absurd q hz
      · intro q; exact absurd (by simpa using q 0 x rfl) hz
theorem wP (s : Series) : nD s = 0 ↔ (1 ≤ s.Den ∧ s.Den ≤ 1000000) ∧ s.Samples.length ≤ 20000 ∧ ∀ i x, s.Samples[i]? = some x → aGg s.Samples i x = 0 := by
 obtain ⟨r, hr⟩ := aDo s;have e : nD s = r.2 := by unfold nD; rw [hr]; rfl
 rw [e];unfold aOi at hr;split at hr;rename_i h;cases hr;simp only [Bool.not_eq_true', Bool.and_eq_false_iff, decide_eq_false_iff_not] at h;constructor;intro h0; cases h0;rintro ⟨h1, _⟩; omega;rename_i h;simp only [Bool.not_eq_true', Bool.and_eq_false_iff, decide_eq_false_iff_not] at h;split at hr;rename_i h2;simp only [decide_eq_true_eq] at h2;cases hr;constructor;intro h0; cases h0;rintro ⟨_, h1, _⟩; omega;rename_i h2;simp only [decide_eq_true_eq] at h2;have := aJx (aGg s.Samples) s.Samples 0 r hr;simp only [Nat.zero_add] at this;rw [this];constructor;intro q; exact ⟨by omega, by omega, q⟩;intro q; exact q.2.2
theorem names_ne {l:List Track}(h:aDi l=0){i j:Nat}{x y:Track}(hx:l[i]? =some x)(hy:l[j]? =some y)(hij:i<j):x.Name≠y.Name:=by
 have:=((pJ l j y).1 (((wZ l).1 h).2 j y hy)).2.1;intro e;have t:bV (fun _ z=>decide (z.Name=y.Name)) (l.take j) 0=true:=(qP _ _ _).2 ⟨i,x,by rw [List.getElem?_take,if_pos hij]; exact hx,by simpa using e⟩;rw [this] at t; cases t
theorem aNx {l:List Track}(h:aDi l=0):l.Pairwise fun a b=>a.Name≠b.Name:=by
 rw [List.pairwise_iff_getElem];intro i j hi hj hij;exact names_ne h (List.getElem?_eq_getElem hi) (List.getElem?_eq_getElem hj) hij
end Go.Lf
namespace Go.Lf
def mD (x:Mask):Prop:=True∧i64 x.Days∧okL (fun x=>okS x) x.Hide∧okL (fun x=>aLp x) x.Grains∧i64 x.Least
def namE (l:List Str)(i:Nat)(x:Str):Int:=if !kQ x then 8 else if bV (fun _ y=>decide (x=y)) (l.take i) 0 then 5 else 0
def namF (l:List Str)(fin:Option Int):Option Int:=dC (fun i x=>if namE l i x=0 then none else some (some (namE l i x))) fin l 0
theorem aNq (l : List Str) (c : Str) (hl : l.length ≤ 9223372036854775807) : Fag l c = some (bV (fun _ y => decide (c = y)) l 0) := by
  obtain ⟨n, h1, h2⟩ := aBi (fun (_ : Nat) (y : Str) => decide (c = y)) l 0
  have e : Fad l c = some n := by
    unfold Fad
    simp only [zM, xX]
    unfold Fda
    rw [← h1]
    refine xU l _ _ hl ?_ ?_
    · intro kk i x hx hi
      simp only [zM]
      rw [xE hi, yF, xQ hx, zI, eH hi hl]
      cases decide (c = x) <;> rfl
    · intro kk; simp only [zM]; rw [xH]; rfl
  unfold Fag
  rw [e]
  simp only [zM, zI, h2]
theorem aJb (l : List Str) (h : okL okS l) : Fcv l = if decide (30 < (l.length : Int)) = true then some 3 else namF l (some 0) := by
 unfold Fcv namF;simp only [zM, xX, bU];congr 1;unfold Fgl;refine xU l _ _ h.1 ?_ ?_;intro kk i x hx hi;have o1 := h.2 x (List.mem_of_getElem? hx);simp only [zM];rw [xE hi, yF, xQ hx, zI, sJ _ o1, zI, aMg l (by omega), eH hi h.1];simp only [zI, aNq (l.take i) x (by have := h.1; simp; omega)];unfold namE;cases kQ x;rfl;cases bV (fun _ y => decide (x = y)) (l.take i) 0 <;> rfl;intro kk; simp only [zM]; rw [xH]; rfl
theorem contG_eq (l : List eY) (c : eY) (hl : l.length ≤ 9223372036854775807) : Fd1 l c = some (bV (fun _ y => decide (y.Track = c.Track)) l 0) := by
  obtain ⟨n, h1, h2⟩ := aBi (fun (_ : Nat) (y : eY) => decide (y.Track = c.Track)) l 0
  have e : Fch l c = some n := by
    unfold Fch
    simp only [zM, xX]
    unfold Fgn
    rw [← h1]
    refine xU l _ _ hl ?_ ?_
    · intro kk i x hx hi
      unfold Ffm
      simp only [zM, zI]
      rw [xE hi, yF, xQ hx, zI, eH hi hl]
      cases decide (x.Track = c.Track) <;> rfl
    · intro kk; simp only [zM]; rw [xH]; rfl
  unfold Fd1
  rw [e]
  simp only [zM, zI, h2]
def aIt (l:List eY)(i:Nat)(x:eY):Int:=
  if !kQ x.Track then 8 else if bV (fun _ y=>decide (y.Track=x.Track)) (l.take i) 0 then 5 else if !(decide (1≤x.N) && decide (x.N≤1125899906842624)) then 9 else 0
def graF (l:List eY)(fin:Option Int):Option Int:=dC (fun i x=>if aIt l i x=0 then none else some (some (aIt l i x))) fin l 0
def aPm (m:Mask):Option Int:=if !(decide (1≤m.Least) && decide (m.Least≤1000)) then some 9 else some 0
def aLu (m:Mask):Option Int:=if decide (30<(m.Grains.length:Int))=true then some 3 else graF m.Grains (aPm m)
def aAu (m:Mask):Option Int:=
  if !(decide (1≤m.Days) && decide (m.Days≤1000000)) then some 9 else if decide (30<(m.Hide.length:Int))=true then some 3 else namF m.Hide (aLu m)
theorem aJe (e:Nat→Str→Int): ∀(l:List Str) (i:Nat) (fin:Option Int),dC (fun i x=>if e i x=0 then none else some (some (e i x))) fin l i=
    gG (dC (fun i x=>if e i x=0 then none else some (some (e i x))) (some 0) l i) fun r=>if r=0 then fin else some r
  | [],i,fin=>by simp [dC,zI]
  | x :: l,i,fin=>by
    rw [dC,dC]
    by_cases h:e i x=0
    · simp only [h,if_true]; exact aJe e l (i+1) fin
    · simp only [h,if_false,zI]
theorem qE (m : Mask) (h : mD m) : Fbm m = aAu m := by
  unfold Fbm aAu
  simp only [zM, xX, pY, zI, aJb _ h.2.2.1]
  have g : Fe1 m (fun _ => gU (!(decide (1 ≤ m.Least) && decide (m.Least ≤ 1000))) (some 9) (some 0)) (m.Grains.length : Int) 0 = graF m.Grains (aPm m) := by
    unfold Fe1 graF
    refine xU m.Grains _ _ h.2.2.2.1.1 ?_ ?_
    · intro kk i x hx hi
      have o1 := (h.2.2.2.1.2 x (List.mem_of_getElem? hx)).1
      simp only [zM]
      rw [xE hi, yF, xQ hx, zI, sJ _ o1, zI, aMg m.Grains (by omega), eH hi h.2.2.2.1.1]
      simp only [zI, contG_eq (m.Grains.take i) x (by have := h.2.2.2.1.1; simp; omega), pY]
      unfold aIt
      cases kQ x.Track
      · rfl
      · cases bV (fun _ y => decide (y.Track = x.Track)) (m.Grains.take i) 0
        · cases (decide (1 ≤ x.N) && decide (x.N ≤ 1125899906842624)) <;> rfl
        · rfl
    · intro kk; simp only [zM]; rw [xH, yE]; unfold aPm; rw [bU]
  rw [g]
  simp only [bU]
  congr 1
  by_cases c : decide (30 < (m.Hide.length : Int)) = true
  · rw [if_pos c, if_pos c]; simp [zI]
  · rw [if_neg c, if_neg c]
    unfold namF
    rw [aJe _ _ _ (aLu m)]
    congr 1
    funext r
    by_cases hr : r = 0
    · simp [hr, aLu]
    · simp [hr]
theorem aPf (l : List Str) (hl : l.length ≤ 9223372036854775807) {i : Nat} {x : Str} (hx : l[i]? = some x) : Fbw l (i : Int) = some (bV (fun _ y => decide (x = y)) (l.take i) 0) := by
  have hi := (List.getElem?_eq_some_iff.1 hx).1
  have ht : (l.take i).length = i := by rw [List.length_take]; exact Nat.min_eq_left (Nat.le_of_lt hi)
  have hm : (l.take i).length ≤ 9223372036854775807 := by rw [ht]; exact Nat.le_trans (Nat.le_of_lt hi) hl
  have e := qH (fun _ y => decide (x = y)) (some true) (some false) (l.take i) 0
  unfold Fbw
  rw [xX]
  have q : Fee l (i : Int) (fun _ => some false) 0 = dC (fun i y => if decide (x = y) = true then some (some true) else none) (some false) (l.take i) 0 := by
    unfold Fee
    refine xU (l.take i) _ (some false) hm ?_ ?_
    · intro kk j y hy hj
      rw [ht] at hj
      have hy' : l[j]? = some y := by rw [List.getElem?_take, if_pos hj] at hy; exact hy
      simp only [zM]
      rw [xE hj, yF, xQ hy', zI, xQ hx, zI, eH (n := l.length) (Nat.lt_trans hj hi) hl, show decide (y = x) = decide (x = y) from decide_eq_decide.2 ⟨Eq.symm, Eq.symm⟩]
      cases decide (x = y)
      · rfl
      · rfl
    · intro kk
      rw [ht]
      simp only [zM, xH, yE]
  rw [q, e]
  cases bV (fun _ y => decide (x = y)) (l.take i) 0 <;> rfl
theorem aOw (x:Str): ∀(l:List eY) (i:Nat),bV (fun _ y=>decide (x=y)) (l.map eY.Track) i=bV (fun _ y=>decide (y.Track=x)) l i
  | [],_=>rfl
  | y :: l,i=>by
    rw [List.map_cons,bV,bV,aOw x l (i+1),show decide (x=y.Track)=decide (y.Track=x) from decide_eq_decide.2 ⟨Eq.symm,Eq.symm⟩]
theorem aIx (m : Mask) (h : mD m) (hg : m.Grains.length ≤ 9223372036854775807) : Fd9 m = aAu m := by
  unfold Fd9 aAu
  simp only [zM, xX, out9, aAc, zI, bU]
  congr 1
  congr 1
  have g : ¬ decide (30 < (m.Grains.length : Int)) = true → Fcs m (fun _ => if (!(decide (1 ≤ m.Least) && decide (m.Least ≤ 1000))) = true then some 9 else some 0) ([], 0) = graF m.Grains (aPm m) := by
    intro c30
    have c30 : m.Grains.length ≤ 30 := by simp at c30; omega
    unfold Fcs graF
    rw [← aDr (f := fun i x _ => match (if aIt m.Grains i x = 0 then none else some (some (aIt m.Grains i x)) : Option (Option Int)) with | some r => .inr r | none => .inl ()) (fin := fun _ => aPm m) _ (fun i x => by cases (if aIt m.Grains i x = 0 then (none : Option (Option Int)) else some (some (aIt m.Grains i x))) <;> rfl)]
    refine nM (fun (i : Nat) (_ : Unit) => ((m.Grains.take i).map eY.Track, (i : Int))) m.Grains _ _ hg (fun kk i _ x hx => ?_) (fun kk _ => ?_) ()
    · have hi := (List.getElem?_eq_some_iff.1 hx).1
      have o1 := (h.2.2.2.1.2 x (List.mem_of_getElem? hx)).1
      have ht : m.Grains.take (i + 1) = m.Grains.take i ++ [x] := by rw [List.take_add_one, hx]; rfl
      have ha : app' 16 ((m.Grains.take i).map eY.Track) [x.Track] = some ((m.Grains.take (i + 1)).map eY.Track) := by
        unfold app'
        rw [if_pos, ht]
        · simp
        · simp [maxLen]; omega
      have hlen : ((m.Grains.take (i + 1)).map eY.Track).length = i + 1 := by simp; omega
      have hget : ((m.Grains.take (i + 1)).map eY.Track)[i]? = some x.Track := by
        rw [ht, List.map_append, List.getElem?_append_right (by simp; omega)]
        simp
        rw [show i - min i m.Grains.length = 0 by omega]; rfl
      have htk : ((m.Grains.take (i + 1)).map eY.Track).take i = (m.Grains.take i).map eY.Track := by
        rw [← List.map_take, List.take_take, Nat.min_eq_left (by omega)]
      simp only [zM]
      rw [xE hi, yF, xQ hx, zI, ha, zI, xQ hget, zI, qO _ o1, zI, aPf _ (by omega) hget, zI, zI, htk, aOw, eH hi hg]
      simp only [out9, aAc, zI]
      unfold aIt
      cases kQ x.Track
      · rfl
      · cases bV (fun _ y => decide (y.Track = x.Track)) (m.Grains.take i) 0
        · cases (decide (1 ≤ x.N) && decide (x.N ≤ 1125899906842624)) <;> rfl
        · rfl
    · simp only [zM, List.take_length]; rw [xH, yE]; rfl
  have q : (if decide (30 < (m.Grains.length : Int)) = true then some 3 else Fcs m (fun _ => if (!(decide (1 ≤ m.Least) && decide (m.Least ≤ 1000))) = true then some 9 else some 0) ([], 0)) = aLu m := by
    unfold aLu
    split
    · rfl
    · rename_i c; rw [g c]
  rw [q]
  unfold Fgg namF
  refine xU m.Hide _ _ h.2.2.1.1 ?_ ?_
  · intro kk i x hx hi
    have o1 := h.2.2.1.2 x (List.mem_of_getElem? hx)
    simp only [zM]
    rw [xE hi, yF, xQ hx, zI, qO _ o1, zI, aPf _ h.2.2.1.1 hx, zI, eH hi h.2.2.1.1]
    unfold namE
    cases kQ x
    · rfl
    · cases bV (fun _ y => decide (x = y)) (m.Hide.take i) 0 <;> rfl
  · intro kk; simp only [zM]; rw [xH]; rfl
end Go.Lf
namespace Go.Lf
def co (n N:Int):Int:=max (N - N % n) (-1125899906842624)
theorem tm_neg (N n : Int) (hn : 1 ≤ n) : (if N.tmod n < 0 then N.tmod n + n else N.tmod n) = N % n := by
  have h1 := Int.emod_nonneg N (b := n) (by omega)
  have h2 := Int.emod_lt_of_pos N (b := n) (by omega)
  rw [Int.tmod_eq_emod]
  have e : (n.natAbs : Int) = n := Int.natAbs_of_nonneg (by omega)
  by_cases h : 0 ≤ N ∨ n ∣ N
  · rw [if_pos h]; split <;> omega
  · rw [if_neg h]
    have : N % n ≠ 0 := by
      intro q; exact h (.inr (Int.dvd_of_emod_eq_zero q))
    split <;> omega
theorem coarse_eq (N n : Int) (hN : -1125899906842624 ≤ N ∧ N ≤ 1125899906842624) (hn : 1 ≤ n ∧ n ≤ 1125899906842624) : Fc1 N n = some (co n N) := by
  have h1 := Int.emod_nonneg N (b := n) (by omega)
  have h2 := Int.emod_lt_of_pos N (b := n) (by omega)
  have t := tm_neg N n hn.1
  unfold Fc1 mW co
  rw [if_neg (by omega), zI]
  simp only [zM, wB]
  have hr : (if N.tmod n < 0 then some (IntKind.i64.wrap (N.tmod n + n)) else some (N.tmod n)) = some (N % n) := by
    by_cases c : N.tmod n < 0
    · rw [if_pos c] at t ⊢
      rw [Go.OB.wrap_i64 (by omega) (by omega), t]
    · rw [if_neg c] at t ⊢
      rw [t]
  rw [hr, zI, Go.OB.wrap_i64 (by omega) (by omega)]
theorem co_rng {n N:Int}(hN: -1125899906842624≤N∧N≤1125899906842624)(hn:1≤n): -1125899906842624≤co n N∧co n N≤1125899906842624:=by
 have h1:=Int.emod_nonneg N (b:=n) (by omega);unfold co; omega
def cs (n:Int)(x:gZ):gZ:=if decide (2≤x.Mark) then ⟨x.At,co n x.N,x.Mark⟩ else x
theorem clone_eq (l : List gZ) (h : l.length ≤ 20000) : Fd2 l = some l := by
  have e : app' 24 ([] : List gZ) l = some l := by
    unfold app'
    rw [if_pos]
    · rfl
    · constructor
      · simp [maxLen]; omega
      · simp; omega
  unfold Fd2 aRf
  rw [e]
  simp only [zI, yF, yE]
  cases l <;> simp

theorem masked_L3 (g : eY) (hn : 1 ≤ g.N ∧ g.N ≤ 1125899906842624) (l : List gZ) (hl : l.length ≤ 20000) (hN : ∀ x ∈ l, -1125899906842624 ≤ x.N ∧ x.N ≤ 1125899906842624) :
    Fff g (l.length : Int) (0, l) = some (l.map (cs g.N)) := by
  unfold Fff
  refine bI (fun i => ((i : Int), (l.take i).map (cs g.N) ++ l.drop i)) l (some (l.map (cs g.N))) (by omega) ?_ ?_
  · intro kk i x hx hi
    have hlen : ((l.take i).map (cs g.N)).length = i := by simp; omega
    have hat : at' ((l.take i).map (cs g.N) ++ l.drop i) (i : Int) = some x := by
      rw [aAp, List.getElem?_append_right (by omega), hlen, Nat.sub_self, List.getElem?_drop, Nat.add_zero, hx]
    have hd : l.drop i = x :: l.drop (i + 1) := by rw [List.drop_eq_getElem_cons hi]; congr 1; rw [List.getElem?_eq_getElem hi] at hx; exact Option.some.inj hx
    have ht : l.take (i + 1) = l.take i ++ [x] := by rw [List.take_add_one, hx]; rfl
    simp only [zM]
    rw [xE hi, yF, hat]
    simp only [zI]
    rw [eH hi (by omega), ht, List.map_append, List.append_assoc]
    have hc : cs g.N x = if decide (2 ≤ x.Mark) then ⟨x.At, co g.N x.N, x.Mark⟩ else x := rfl
    have hset : set' ((l.take i).map (cs g.N) ++ l.drop i) (i : Int) (gZ.mk x.At (co g.N x.N) x.Mark) = some ((l.take i).map (cs g.N) ++ gZ.mk x.At (co g.N x.N) x.Mark :: l.drop (i + 1)) := by
      unfold set'
      rw [if_pos (by simp; omega), Int.toNat_natCast, hd, List.set_append_right _ _ (by omega), hlen, Nat.sub_self]; rfl
    rw [coarse_eq x.N g.N (hN x (List.mem_of_getElem? hx)) hn]
    simp only [zI]
    rw [hset]
    cases hq : decide (2 ≤ x.Mark)
    · rw [yE, zI, hd]
      have : cs g.N x = x := by rw [hc, hq]; rfl
      simp [this]
    · rw [yF, zI, zI]
      have : cs g.N x = ⟨x.At, co g.N x.N, x.Mark⟩ := by rw [hc, hq]; rfl
      simp [this]
  · intro kk; simp only [zM]; rw [xH]; simp [gU]

theorem cs_rng {n:Int}{l:List gZ}(hn:1≤n)(hN: ∀x ∈ l,-1125899906842624≤x.N∧x.N≤1125899906842624): ∀x ∈ l.map (cs n),-1125899906842624≤x.N∧x.N≤1125899906842624:=by
 intro x hx;obtain ⟨y,hy,rfl⟩:=List.mem_map.1 hx;unfold cs;split;exact co_rng (hN y hy) hn;exact hN y hy
def grs (s:Str)(gs:List eY)(l:List gZ):List gZ:=gs.foldl (fun l g=>if g.Track=s then l.map (cs g.N) else l) l
theorem aLj {s : Str} : ∀ {gs : List eY} {l : List gZ}, (∀ g ∈ gs, 1 ≤ g.N) → (∀ x ∈ l, -1125899906842624 ≤ x.N ∧ x.N ≤ 1125899906842624) → (grs s gs l).length = l.length ∧ ∀ x ∈ grs s gs l, -1125899906842624 ≤ x.N ∧ x.N ≤ 1125899906842624
  | [], l, _, h => ⟨rfl, h⟩
  | g :: gs, l, hg, h => by
    have hr : ∀ g ∈ gs, 1 ≤ g.N := fun x hx => hg x (List.mem_cons_of_mem _ hx)
    show (grs s gs (if g.Track = s then l.map (cs g.N) else l)).length = _ ∧ _
    by_cases c : g.Track = s
    · have q := aLj (s := s) hr (cs_rng (hg g List.mem_cons_self) h)
      rw [List.length_map] at q
      unfold grs
      simp only [List.foldl_cons, if_pos c]
      exact q
    · have q := aLj (s := s) hr h
      unfold grs
      simp only [List.foldl_cons, if_neg c]
      exact q
theorem grs_snoc (s:Str)(gs:List eY)(g:eY)(l:List gZ):grs s (gs++ [g]) l=if g.Track=s then (grs s gs l).map (cs g.N) else grs s gs l:=by
 unfold grs; rw [List.foldl_append]; rfl
structure Gm (m:Mask):Prop where
  days:1≤m.Days∧m.Days≤1000000
  many:m.Grains.length≤30
  gr: ∀g ∈ m.Grains,1≤g.N∧g.N≤1125899906842624
theorem masked_L2 (m : Mask) (gm : Gm m) (t : Track) (hl : t.Series.Samples.length ≤ 20000) (hN : ∀ x ∈ t.Series.Samples, -1125899906842624 ≤ x.N ∧ x.N ≤ 1125899906842624) :
    Fev m t (m.Grains.length : Int) (0, t.Series.Samples) = some (grs t.Name m.Grains t.Series.Samples) := by
 unfold Fev;have hm := gm.many;refine bI (fun (i : Nat) => ((i : Int), grs t.Name (m.Grains.take i) t.Series.Samples)) m.Grains (some (grs t.Name m.Grains t.Series.Samples)) (by omega) ?_ ?_;intro kk i x hx hi;have ht : m.Grains.take (i + 1) = m.Grains.take i ++ [x] := by rw [List.take_add_one, hx]; rfl
 have hg := gm.gr x (List.mem_of_getElem? hx);obtain ⟨r1, r2⟩ := aLj (s := t.Name) (gs := m.Grains.take i) (fun g hg => (gm.gr g (List.mem_of_mem_take hg)).1) hN;simp only [zM];rw [xE hi, yF, xQ hx, zI, eH hi (by omega), ht, grs_snoc];by_cases c : x.Track = t.Name;rw [decide_eq_false (fun h => h c), yE, masked_L3 x hg _ (by omega) r2, zI, if_pos c];rw [decide_eq_true c, yF, zI, if_neg c];intro kk; simp only [zM, List.take_length]; rw [xH, yE]
def hid (m:Mask)(s:Str):Bool:=m.Hide.any fun y=>decide (s=y)
theorem aOz (s:Str): ∀(l:List Str) (i:Nat),bV (fun _ y=>decide (s=y)) l i=l.any fun y=>decide (s=y)
  | [],_=>rfl
  | x :: l,i=>by rw [bV,List.any_cons,aOz s l (i+1)]
def mtk (m:Mask)(t:Track):Track:=⟨t.Name,⟨t.Series.Den,grs t.Name m.Grains t.Series.Samples⟩,t.Long⟩
def mts (m:Mask)(l:List Track):List Track:=(l.filter fun t=> !hid m t.Name).map (mtk m)
theorem mts_snoc (m:Mask)(l:List Track)(x:Track):mts m (l++ [x])=if hid m x.Name=true then mts m l else mts m l++ [mtk m x]:=by
 unfold mts;rw [List.filter_append,List.map_append];cases h:hid m x.Name<;>simp [h]
theorem aLd (m:Mask)(l:List Track):(mts m l).length≤l.length:=by unfold mts; rw [List.length_map]; exact List.length_filter_le _ _
def mfl (m:Mask)(f:Flight):Flight:=⟨if m.Tails=true then [] else f.Tail,f.Route,f.Day - f.Day.tmod m.Days,f.From,f.To,mts m f.Tracks⟩
structure Okt (f:Flight):Prop where
  day:0≤f.Day∧f.Day≤1000000
  many:f.Tracks.length≤30
  trk: ∀t ∈ f.Tracks,t.Series.Samples.length≤20000∧ ∀x ∈ t.Series.Samples,-1125899906842624≤x.N∧x.N≤1125899906842624
theorem tJ (f : Flight) (m : Mask) (gm : Gm m) (o : Okt f) (hh : m.Hide.length ≤ 9223372036854775807) : Fah f m = some (mfl m f) := by
  have hl := o.many
  have e : Fe5 f m (f.Tracks.length : Int) ([], 0) = some (mts m f.Tracks) := by
    unfold Fe5
    refine bI (fun (i : Nat) => (mts m (f.Tracks.take i), (i : Int))) f.Tracks (some (mts m f.Tracks)) (by omega) ?_ ?_
    · intro kk i x hx hi
      obtain ⟨h1, h2⟩ := o.trk x (List.mem_of_getElem? hx)
      have ht : f.Tracks.take (i + 1) = f.Tracks.take i ++ [x] := by rw [List.take_add_one, hx]; rfl
      have hl2 := aLd m (f.Tracks.take i)
      rw [List.length_take] at hl2
      have ha : app' 56 (mts m (f.Tracks.take i)) [Track.mk x.Name (Series.mk x.Series.Den (grs x.Name m.Grains x.Series.Samples)) x.Long] = some (mts m (f.Tracks.take i) ++ [mtk m x]) := by
        unfold app'
        rw [if_pos]
        · rfl
        · simp [maxLen]; omega
      simp only [zM]
      rw [xE hi, yF, xQ hx, zI, aNq _ _ hh, zI, aOz, ht, mts_snoc, eH hi (by omega)]
      show gG (gU (hid m x.Name) _ _) _ = _
      cases hid m x.Name
      · rw [yE, clone_eq _ h1, zI, masked_L2 m gm x h1 h2, zI, ha, zI, zI]; rfl
      · rw [yF, zI]; rfl
    · intro kk; simp only [zM, List.take_length]; rw [xH, yE]
  have d := gm.days
  have dd := o.day
  have t1 := Int.tmod_nonneg m.Days dd.1
  have t2 := Int.tmod_lt_of_pos f.Day (show 0 < m.Days by omega)
  unfold Fah
  simp only [zM, zI]
  unfold mW
  rw [e, if_neg (by omega)]
  simp only [zI]
  rw [Go.OB.wrap_i64 (by omega) (by omega)]
  unfold mfl
  cases m.Tails <;> rfl
end Go.Lf
namespace Go.Lf
theorem cs_at (n:Int)(x:gZ):(cs n x).At=x.At∧(cs n x).Mark=x.Mark:=by unfold cs; split<;>exact ⟨rfl,rfl⟩
theorem cs_n (n:Int)(x:gZ):(cs n x).N=if 2≤x.Mark then co n x.N else x.N:=by unfold cs; by_cases h:2≤x.Mark<;>simp [h]
theorem sW (l : List gZ) (i : Nat) (x : gZ) : aGg l i x = 0 ↔ (0 ≤ x.At ∧ x.At ≤ 1099511627776) ∧ (-1125899906842624 ≤ x.N ∧ x.N ≤ 1125899906842624) ∧ (0 ≤ x.Mark ∧ x.Mark ≤ 4) ∧ (x.N = 0 ∨ 2 ≤ x.Mark) ∧ (∀ j y, i = j + 1 → l[j]? = some y → y.At < x.At) := by
  unfold aGg
  split
  · rename_i h
    simp only [Bool.or_eq_true, Bool.not_eq_true', Bool.and_eq_false_iff, decide_eq_false_iff_not] at h
    constructor
    · intro q; cases q
    · intro q; omega
  · rename_i h
    simp only [Bool.or_eq_true, Bool.not_eq_true', Bool.and_eq_false_iff, decide_eq_false_iff_not] at h
    split
    · rename_i h2
      simp only [Bool.and_eq_true, decide_eq_true_eq] at h2
      constructor
      · intro q; cases q
      · intro q; omega
    · rename_i h2
      simp only [Bool.and_eq_true, decide_eq_true_eq] at h2
      cases i with
      | zero =>
        simp only [true_iff]
        exact ⟨by omega, by omega, by omega, by omega, fun j y hj => by omega⟩
      | succ j =>
        cases e : l[j]? with
        | none =>
          simp only [e, true_iff]
          refine ⟨by omega, by omega, by omega, by omega, ?_⟩
          intro j' y hj hy
          obtain rfl : j' = j := by omega
          rw [e] at hy; cases hy
        | some y =>
          simp only [e, decide_eq_true_eq]
          constructor
          · intro q
            by_cases c : x.At ≤ y.At
            · rw [if_pos c] at q; cases q
            · refine ⟨by omega, by omega, by omega, by omega, ?_⟩
              intro j' z hj hz
              obtain rfl : j' = j := by omega
              rw [e] at hz; cases hz; omega
          · rintro ⟨_, _, _, _, q⟩
            have := q j y rfl e
            rw [if_neg (by omega)]
theorem ser_mask {d : Int} {l : List gZ} {n : Int} (hn : 1 ≤ n) (h : nD ⟨d, l⟩ = 0) : nD ⟨d, l.map (cs n)⟩ = 0 := by
 rw [wP] at h ⊢;obtain ⟨h1, h2, h3⟩ := h;refine ⟨h1, by simpa using h2, ?_⟩;intro i x hx;simp only [List.getElem?_map, Option.map_eq_some_iff] at hx;obtain ⟨y, hy, rfl⟩ := hx;have := (sW _ _ _).1 (h3 i y hy);obtain ⟨q1, q2, q3, q4, q5⟩ := this;obtain ⟨c1, c2⟩ := cs_at n y;rw [sW, c1, c2, cs_n];have r := co_rng q2 hn;refine ⟨q1, ?_, q3, ?_, ?_⟩;split <;> omega;by_cases c : 2 ≤ y.Mark;exact .inr c;rw [if_neg c]; omega;intro j z hj hz;simp only [List.getElem?_map, Option.map_eq_some_iff] at hz;obtain ⟨z', hz', rfl⟩ := hz;rw [(cs_at n z').1];exact q5 j z' hj hz'
theorem aDu {l:List Track}(h:aDi l=0){t:Track}(ht:t ∈ l):t.Series.Samples.length≤20000∧ ∀x ∈ t.Series.Samples,-1125899906842624≤x.N∧x.N≤1125899906842624:=by
 obtain ⟨i,hi⟩:=List.getElem?_of_mem ht;have q:=((pJ l i t).1 (((wZ l).1 h).2 i t hi)).2.2.1;rw [wP] at q;refine ⟨q.2.1,fun x hx=>?_⟩;obtain ⟨j,hj⟩:=List.getElem?_of_mem hx;exact ((sW _ _ _).1 (q.2.2 j x hj)).2.1

theorem aNy (s:Str): ∀(gs:List eY) (l:List gZ),(∀g ∈ gs,g.Track≠s)→grs s gs l=l
  | [],_,_=>rfl
  | g :: gs,l,h=>by
    unfold grs
    rw [List.foldl_cons,if_neg (h g List.mem_cons_self)]
    exact aNy s gs l fun x hx=>h x (List.mem_cons_of_mem _ hx)
theorem aPj (m:Mask)(x:Track)(l:List Track):mts m (x :: l)=if hid m x.Name=true then mts m l else mtk m x :: mts m l:=by
 unfold mts;rw [List.filter_cons];cases hid m x.Name<;>simp
structure aSo (m:Mask):Prop extends Gm m where
  pw:m.Grains.Pairwise fun a b=>a.Track≠b.Track
theorem mts_mem {m:Mask}{l:List Track}{t:Track}(h:t ∈ mts m l): ∃u ∈ l,t=mtk m u:=by
 unfold mts at h;obtain ⟨u,hu,rfl⟩:=List.mem_map.1 h;exact ⟨u,(List.mem_filter.1 hu).1,rfl⟩
theorem aTe {d:Int}{s:Str}: ∀(gs:List eY) (l:List gZ),(∀g ∈ gs,1≤g.N)→nD ⟨d,l⟩=0→nD ⟨d,grs s gs l⟩=0
  | [],_,_,h=>h
  | g :: gs,l,hg,h=>by
    show nD ⟨d,grs s gs (if g.Track=s then l.map (cs g.N) else l)⟩=0
    refine aTe gs _ (fun x hx=>hg x (List.mem_cons_of_mem _ hx)) ?_
    split
    · exact ser_mask (hg g List.mem_cons_self) h
    · exact h
theorem mts_pw {m:Mask}{l:List Track}(h:l.Pairwise fun a b=>a.Name≠b.Name):(mts m l).Pairwise fun a b=>a.Name≠b.Name:=by
 unfold mts;rw [List.pairwise_map];exact (List.Pairwise.filter _ h).imp fun h=>h
theorem trk_mts {m : Mask} (g : Gm m) {l : List Track} (h : aDi l = 0) : aDi (mts m l) = 0 := by
 have hp := mts_pw (m := m) (aNx h);rw [wZ] at h ⊢;refine ⟨Nat.le_trans (aLd m l) h.1, ?_⟩;intro i x hx;obtain ⟨u, hu, rfl⟩ := mts_mem (List.mem_of_getElem? hx);obtain ⟨j, hj⟩ := List.getElem?_of_mem hu;obtain ⟨q1, _, q3, q4⟩ := (pJ l j u).1 (h.2 j u hj);rw [pJ];refine ⟨q1, ?_, aTe _ _ (fun x hx => (g.gr x hx).1) q3, q4⟩;rw [Bool.eq_false_iff];intro ht;obtain ⟨k, z, h1, h2⟩ := (qP _ _ _).1 ht;rw [List.getElem?_take] at h1;split at h1;rename_i hk;rw [List.pairwise_iff_getElem] at hp;have e1 := List.getElem?_eq_some_iff.1 h1;have e2 := List.getElem?_eq_some_iff.1 hx;have := hp k i e1.1 e2.1 hk;rw [e1.2, e2.2] at this;exact this (by simpa using h2);cases h1
theorem aCw {m:Mask}(gm:Gm m){f:Flight}(g:Good f):Good (mfl m f):=by
  have d:=gm.days
  have dd:=g.day
  have t1:=Int.tmod_nonneg m.Days dd.1
  have t2:f.Day.tmod m.Days≤f.Day:=by
    have e:=Int.mul_tdiv_add_tmod f.Day m.Days
    have:=Int.mul_nonneg (show 0≤m.Days by omega) (Int.tdiv_nonneg dd.1 (show 0≤m.Days by omega))
    omega
  refine ⟨?_,g.route,⟨by show 0≤f.Day - _; omega,by show f.Day - _≤_; omega⟩,g.frm,g.span,Nat.le_trans (aLd m f.Tracks) g.many,trk_mts gm g.trk⟩
  show (if m.Tails=true then [] else f.Tail)= []∨kQ (if m.Tails=true then [] else f.Tail)=true
  split
  · exact .inl rfl
  · exact g.tail
theorem aHb {f:Flight}(g:Good f):Okt f:=⟨g.day,g.many,fun _ ht=>aDu g.trk ht⟩
theorem tK {α : Type} (e : Nat → α → Int) : ∀ (l : List α) (i : Nat) (fin : Option Int), dC (fun i x => if e i x = 0 then none else some (some (e i x))) fin l i = some 0 → (∀ j x, l[j]? = some x → e (i + j) x = 0) ∧ fin = some 0
  | [], i, fin, h => ⟨fun j x hx => by simp at hx, h⟩
  | x :: l, i, fin, h => by
    rw [dC] at h
    by_cases c : e i x = 0
    · simp only [c, if_true] at h
      obtain ⟨h1, h2⟩ := tK e l (i + 1) fin h
      refine ⟨fun j y hy => ?_, h2⟩
      cases j with
      | zero => simp at hy; subst hy; simpa using c
      | succ j => have := h1 j y (by simpa using hy); rwa [show i + (j + 1) = i + 1 + j by omega]
    · simp only [c, if_false] at h
      exact absurd (Option.some.inj h) c
theorem tV (m : Mask) : ∃ c, aAu m = some c := by
  have h1 : ∃ r, aPm m = some r := by unfold aPm; split <;> exact ⟨_, rfl⟩
  have h2 : ∃ r, aLu m = some r := by
    unfold aLu
    split
    · exact ⟨_, rfl⟩
    · exact rC h1 (fun i x r h => aBz h) _ _
  unfold aAu
  split
  · exact ⟨_, rfl⟩
  · split
    · exact ⟨_, rfl⟩
    · exact rC h2 (fun i x r h => aBz h) _ _
theorem aMl {l : List eY} {i : Nat} {x : eY} (h : aIt l i x = 0) : bV (fun _ y => decide (y.Track = x.Track)) (l.take i) 0 = false ∧ 1 ≤ x.N ∧ x.N ≤ 1125899906842624 := by
 unfold aIt at h;split at h;cases h;split at h;cases h;split at h;cases h;rename_i h1 h2 h3;simp only [Bool.not_eq_true', Bool.and_eq_false_iff, decide_eq_false_iff_not] at h3;exact ⟨by simpa using h2, by omega, by omega⟩
theorem aCa {m : Mask} (h : aAu m = some 0) : aSo m := by
 unfold aAu at h;split at h;cases h;rename_i h1;split at h;cases h;have h2 := (tK _ _ _ _ h).2;unfold aLu at h2;split at h2;cases h2;rename_i h3;have h4 := (tK _ _ _ _ h2).1;simp only [Bool.not_eq_true', Bool.and_eq_false_iff, decide_eq_false_iff_not] at h1;have h3 : m.Grains.length ≤ 30 := by simp at h3; omega
 refine ⟨⟨by omega, h3, fun g hg => ?_⟩, ?_⟩;obtain ⟨j, hj⟩ := List.getElem?_of_mem hg;have := h4 j g hj;rw [Nat.zero_add] at this;exact (aMl this).2;rw [List.pairwise_iff_getElem];intro i j hi hj hij e;have q := h4 j _ (List.getElem?_eq_getElem hj);rw [Nat.zero_add] at q;have t : bV (fun _ z => decide (z.Track = m.Grains[j].Track)) (m.Grains.take j) 0 = true := (qP _ _ _).2 ⟨i, m.Grains[i], by rw [List.getElem?_take, if_pos hij]; exact List.getElem?_eq_getElem hi, by simpa using e⟩;rw [(aMl q).1] at t; cases t
end Go.Lf
