/- Walks: what each function computes, for every argument; no condition but those that stand in the statements. -/
import Derived.Test.YtckmiljbaejijaaGreatDoorSOk
import Derived.Test.YtckmiljbaejijaaGreatDoorPl
import Derived.Test.YtckmiljbaejijaaGreatDoorPl2
namespace Go.Lf
def kws:List Str:=[[112,104,97,115,101],[109,111,118,101],[114,117,108,101],[105,102],[111,114],[97,110,100],[116,114,117,101],[102,97,108,115,101],[115,116,101,97,100,121],[110,111,116],[102,111,114],[119,105,116,104,105,110],[99,111,117,110,116],[111,102],[114,105,115,101,115],[115,105,110,99,101]]
theorem aIi (a b c:Int):Faf a b c=some (decide (b≤a) && decide (a≤c)):=by
  unfold Faf; simp only [zU,sF,zQ]
theorem out6 (a b c:Int):Fa5 a b c=some (decide (a<b) || decide (c<a)):=by
  unfold Fa5; simp only [zU,aK,zQ]
def isW (s:Str):Bool:=decide (s ∈ kws)
theorem isWord_eq (s:Str):Fbc s=some (isW s):=by
  unfold Fbc isW kws
  simp only [zU,uQ,zQ,iteB_id,List.mem_cons,List.not_mem_nil,or_false,Bool.decide_or]
def nmB (c:Int):Bool:=(decide (97≤c) && decide (c≤122)) || (decide (48≤c) && decide (c≤57)) || decide (c=45)
theorem aKw (c:Int):Fbi c=some (nmB c):=by
  unfold Fbi nmB
  simp only [zU]
  cases decide (97≤c)<;>cases decide (c≤122)<;>cases decide (48≤c)<;>cases decide (c≤57)<;>cases decide (c=45)<;>rfl
def aGw:Nat→UInt8→Bool:=fun _ c=> !nmB (c.toNat:Int)
theorem isName_L1 (s : Str) (hs : okS s) (k : Unit → Option Bool) : Fc0 s k (s.length : Int) 0 = if kV aGw s 0 = true then some false else k () := by
  unfold Fc0
  rw [xU s (fun i c => if aGw i c = true then some (some false) else none) (k ()) hs]
  · exact qC aGw (some false) (k ()) s 0
  · intro kk i c hc hi
    unfold aGw
    simp only [zU]
    rw [xP hi, yM, aEw hc, zQ, aKw, zQ]
    cases nmB (c.toNat : Int)
    · rfl
    · simp only [Bool.not_true, yN]; rw [eQ hi hs]; rfl
  · intro kk; simp only [zU]; rw [xQ]; rfl
def aAo (s:Str):Bool:=match s with
  | []=>false
  | c :: _=>decide (97≤(c.toNat:Int)) && decide ((c.toNat:Int)≤122)
def sZ (s:Str):Bool:=decide (s.length≤30) && aAo s && !isW s && !kV aGw s 0
theorem qJ (s:Str)(hs:okS s):Fag s=some (sZ s):=by
  unfold Fag sZ
  simp only [zU,zQ,aIi,xY,isName_L1 s hs,isWord_eq]
  cases s with
  | nil=>rfl
  | cons c l=>
    have h0:byte' (c :: l) 0=some (c.toNat:Int):=aEw (i:=0) rfl
    have h1:decide ((1:Int)≤((c :: l).length:Int))=true:=decide_eq_true (by simp; omega)
    have h2:decide (((c :: l).length:Int)≤30)=decide ((c :: l).length≤30):=decide_eq_decide.2 (by omega)
    have h3:decide ((c.toNat:Int)<97)= !decide (97≤(c.toNat:Int)):=by rw [← decide_not]; exact decide_eq_decide.2 (by omega)
    have h4:decide (122<(c.toNat:Int))= !decide ((c.toNat:Int)≤122):=by rw [← decide_not]; exact decide_eq_decide.2 (by omega)
    rw [h0,h1,h2]
    simp only [zQ,Bool.true_and,h3,h4,aAo]
    cases decide ((c :: l).length≤30)<;>cases decide (97≤(c.toNat:Int))<;>cases decide ((c.toNat:Int)≤122)<;>cases isW (c :: l)<;>cases kV aGw (c :: l) 0<;>rfl
end Go.Lf
namespace Go.Lf
theorem aLn (s : Str) : Ffk s = some (isW s) := by
  unfold Ffk Fgh
  simp only [zU, zQ, xY]
  change Fey s kws (fun _ => some false) 0 = _
  unfold Fey
  rw [xU kws (fun _ x => if decide (x = s) = true then some (some true) else none) (some false) (by decide)]
  · rw [qC (fun _ x => decide (x = s))]
    have e : kV (fun _ x => decide (x = s)) kws 0 = isW s := by
      rw [Bool.eq_iff_iff, uH]
      unfold isW
      simp only [decide_eq_true_eq]
      constructor
      · rintro ⟨j, x, h, rfl⟩; exact List.mem_of_getElem? h
      · intro h; obtain ⟨j, hj⟩ := List.getElem?_of_mem h; exact ⟨j, s, hj, rfl⟩
    rw [e]; cases isW s <;> rfl
  · intro kk i c hc hi
    simp only [zU]
    rw [xP hi, yM, wG hc, zQ]
    cases decide (c = s)
    · simp only [yN]; rw [eQ hi (by decide)]; rfl
    · rfl
  · intro kk; simp only [zU]; rw [xQ]; rfl
def badR:Nat→UInt8→Bool:=fun i c=> !((decide (97≤(c.toNat:Int)) && decide ((c.toNat:Int)≤122)) || (decide (0<(i:Int)) && ((decide (48≤(c.toNat:Int)) && decide ((c.toNat:Int)≤57)) || decide ((c.toNat:Int)=45))))
theorem aPr (s : Str) (hs : okS s) (k : Unit → Option Bool) : Fez s k 0 = if kV badR s 0 = true then some false else k () := by
  unfold Fez
  rw [xU s (fun i c => if badR i c = true then some (some false) else none) (k ()) hs]
  · exact qC badR (some false) (k ()) s 0
  · intro kk i c hc hi
    unfold badR
    simp only [zU]
    rw [xP hi, yM, aEw hc, zQ]
    rw [eQ hi hs]
    cases decide (97 ≤ (c.toNat : Int)) <;> cases decide ((c.toNat : Int) ≤ 122) <;> cases decide (0 < (i : Int)) <;> cases decide (48 ≤ (c.toNat : Int)) <;> cases decide ((c.toNat : Int) ≤ 57) <;> cases decide ((c.toNat : Int) = 45) <;> rfl
  · intro kk; simp only [zU]; rw [xQ]; rfl
theorem aN (s:Str)(hs:okS s):Fa1 s=some (sZ s):=by
  unfold Fa1 sZ
  simp only [zU,zQ,xY,aPr s hs,aLn]
  cases s with
  | nil=>rfl
  | cons c l=>
    have h2:decide (((c :: l).length:Int)≤30)=decide ((c :: l).length≤30):=decide_eq_decide.2 (by omega)
    have h5:decide ((c :: l)≠ [])=true:=by simp
    have e:kV badR l (0+1)=kV aGw l (0+1):=aDs l (0+1) fun j x _=>by
      have:decide (0<((0+1+j:Nat):Int))=true:=decide_eq_true (by omega)
      unfold badR aGw nmB
      rw [this]
      simp only [Bool.true_and,Bool.or_assoc]
    rw [kV,kV,e,h2,h5]
    have e2:badR 0 c= !(decide (97≤(c.toNat:Int)) && decide ((c.toNat:Int)≤122)):=by unfold badR; simp
    have e3:aGw 0 c= !(aAo (c :: l) || (decide (48≤(c.toNat:Int)) && decide ((c.toNat:Int)≤57)) || decide ((c.toNat:Int)=45)):=rfl
    have e4:badR 0 c= !aAo (c :: l):=e2
    rw [e3,e4]
    cases aAo (c :: l)<;>cases kV aGw l (0+1)<;>cases decide ((c :: l).length≤30)<;>cases isW (c :: l)<;>simp [gQ,gG]
theorem aQe (a b c:Int):(decide (a<b) || decide (c<a))= !(decide (b≤a) && decide (a≤c)):=by
  by_cases h1:b≤a<;>by_cases h2:a≤c<;>simp [h1,h2]<;>omega
end Go.Lf
namespace Go.Lf
open Go.OB
def okN (c:Cond):Prop:=okS c.Name∧okS c.Other
theorem len_k (n : Nat) (k : Int) : (!(decide (k ≤ (n : Int)) && decide ((n : Int) ≤ k))) = decide ((n : Int) ≠ k) := by
  by_cases h : (n : Int) = k
  · simp [h]
  · by_cases h1 : k ≤ (n : Int)
    · by_cases h2 : (n : Int) ≤ k
      · omega
      · simp [h, h1, h2]
    · simp [h, h1]
theorem len_2 {n:Nat}(hn:n≤200):(!(decide (2≤(n:Int)) && decide ((n:Int)≤200)))=decide ((n:Int)<2):=by
  rw [Bool.eq_iff_iff]
  simp only [Bool.not_eq_true',Bool.and_eq_false_iff,decide_eq_false_iff_not,decide_eq_true_eq]
  omega
section
variable (nm ot:Str) (op n fr:Int) (ks:List Cond)
theorem fo1:Faa 1=some (⟨false,false,false,false,false,0,0⟩,true):=rfl
theorem rf1:Fab 1=some (false,false,false,false,false,0):=rfl
theorem fo2:Faa 2=some (⟨false,false,false,false,false,0,0⟩,true):=rfl
theorem rf2:Fab 2=some (false,false,false,false,false,0):=rfl
theorem fo3:Faa 3=some (⟨true,false,true,true,false,0,0⟩,true):=rfl
theorem rf3:Fab 3=some (true,false,true,true,false,0):=rfl
theorem fo4:Faa 4=some (⟨true,true,true,false,false,0,0⟩,true):=rfl
theorem rf4:Fab 4=some (true,true,true,false,false,0):=rfl
theorem fo5:Faa 5=some (⟨true,false,false,true,true,0,0⟩,true):=rfl
theorem rf5:Fab 5=some (true,false,false,true,true,0):=rfl
theorem fo6:Faa 6=some (⟨true,false,false,false,false,0,0⟩,true):=rfl
theorem rf6:Fab 6=some (true,false,false,false,false,0):=rfl
theorem fo7:Faa 7=some (⟨true,false,false,false,false,0,0⟩,true):=rfl
theorem rf7:Fab 7=some (true,false,false,false,false,0):=rfl
theorem fo8:Faa 8=some (⟨false,false,false,false,false,1,1⟩,true):=rfl
theorem rf8:Fab 8=some (false,false,false,false,false,1):=rfl
theorem fo9:Faa 9=some (⟨false,false,false,false,false,2,200⟩,true):=rfl
theorem rf9:Fab 9=some (false,false,false,false,false,(-1)):=rfl
theorem fo10:Faa 10=some (⟨false,false,false,false,false,2,200⟩,true):=rfl
theorem rf10:Fab 10=some (false,false,false,false,false,(-1)):=rfl
theorem fo11:Faa 11=some (⟨false,false,false,false,true,1,1⟩,true):=rfl
theorem rf11:Fab 11=some (false,false,false,false,true,1):=rfl
theorem fo12:Faa 12=some (⟨false,false,false,false,true,1,1⟩,true):=rfl
theorem rf12:Fab 12=some (false,false,false,false,true,1):=rfl
theorem fo13:Faa 13=some (⟨false,false,false,true,true,1,1⟩,true):=rfl
theorem rf13:Fab 13=some (false,false,false,true,true,1):=rfl
theorem fo14:Faa 14=some (⟨false,false,false,false,false,2,2⟩,true):=rfl
theorem rf14:Fab 14=some (false,false,false,false,false,2):=rfl
theorem fo15:Faa 15=some (⟨false,false,false,false,false,1,1⟩,true):=rfl
theorem rf15:Fab 15=some (false,false,false,false,false,1):=rfl
set_option maxHeartbeats 20000000 in
theorem chk_in (k:Int)(hk2:k=1∨k=2∨k=3∨k=4∨k=5∨k=6∨k=7∨k=8∨k=9∨k=10∨k=11∨k=12∨k=13∨k=14∨k=15)(h1:okS nm)(h2:okS ot)(hk:ks.length≤200):Faj ⟨k,nm,ot,op,n,fr,ks⟩=Fac ⟨k,nm,ot,op,n,fr,ks⟩∧ ∃r,Fac ⟨k,nm,ot,op,n,fr,ks⟩=some r:=by
  have hb:(decide (1≤fr) && decide (fr≤4096))=true→(decide (1≤n) && decide (n≤fr))=true→(decide (-1125899906842624≤n) && decide (n≤1125899906842624))=true:=by
    simp only [Bool.and_eq_true,decide_eq_true_eq]; omega
  rcases hk2 with rfl | rfl | rfl | rfl | rfl | rfl | rfl | rfl | rfl | rfl | rfl | rfl | rfl | rfl | rfl<;>
    (unfold Faj Fac
     simp only [fo1,fo2,fo3,fo4,fo5,fo6,fo7,fo8,fo9,fo10,fo11,fo12,fo13,fo14,fo15,rf1,rf2,rf3,rf4,rf5,rf6,rf7,rf8,rf9,rf10,rf11,rf12,rf13,rf14,rf15,zQ,zU,Bool.not_true,Bool.not_false,yM,yN,xY,out6,aIi,qJ _ h1,aN _ h1,qJ _ h2,aN _ h2,Int.reduceEq,Int.reduceLT,Int.reduceLE,decide_true,decide_false,Bool.or_self,uQ,aK,sF]
     simp only [aQe,len_k,len_2 hk]
     generalize (decide (1≤op) && decide (op≤6))=b1
     generalize (decide (1≤fr) && decide (fr≤4096))=b2 at hb ⊢
     generalize (decide (1≤n) && decide (n≤fr))=b3 at hb ⊢
     generalize (decide (-1125899906842624≤n) && decide (n≤1125899906842624))=b4 at hb ⊢
     simp only [kC]
     grind)
end
theorem aOh (c : Cond) (h : ¬ (1 ≤ c.Kind ∧ c.Kind ≤ 15)) : Faj c = some 7 ∧ Fac c = some 7 := by
  have e : ∀ k : Int, 1 ≤ k → k ≤ 15 → decide (c.Kind = k) = false := fun k h1 h2 => decide_eq_false (by omega)
  constructor
  · unfold Faj Faa
    simp only [zU, e 1 (by decide) (by decide), e 2 (by decide) (by decide), e 3 (by decide) (by decide), e 4 (by decide) (by decide), e 5 (by decide) (by decide), e 6 (by decide) (by decide), e 7 (by decide) (by decide), e 8 (by decide) (by decide), e 9 (by decide) (by decide), e 10 (by decide) (by decide), e 11 (by decide) (by decide), e 12 (by decide) (by decide), e 13 (by decide) (by decide), e 14 (by decide) (by decide), e 15 (by decide) (by decide), yN, zQ, Bool.not_false, yM]
  · unfold Fac
    rw [out6, zQ, aQe]
    have q : (decide (1 ≤ c.Kind) && decide (c.Kind ≤ 15)) = false := by
      rw [Bool.and_eq_false_iff, decide_eq_false_iff_not, decide_eq_false_iff_not]; omega
    rw [q]; rfl
def ck1 (c:Cond):Int:=(Fac c).getD 0
theorem aDj (c : Cond) (h : okN c) (hk : c.Kids.length ≤ 200) : Faj c = some (ck1 c) ∧ Fac c = some (ck1 c) := by
  have key : Faj c = Fac c ∧ ∃ r, Fac c = some r := by
    by_cases hb : 1 ≤ c.Kind ∧ c.Kind ≤ 15
    · obtain ⟨k, nm, ot, op, n, fr, ks⟩ := c
      have hk2 : k = 1 ∨ k = 2 ∨ k = 3 ∨ k = 4 ∨ k = 5 ∨ k = 6 ∨ k = 7 ∨ k = 8 ∨ k = 9 ∨ k = 10 ∨ k = 11 ∨ k = 12 ∨ k = 13 ∨ k = 14 ∨ k = 15 := by have := hb.1; have := hb.2; simp only at *; omega
      exact chk_in nm ot op n fr ks k hk2 h.1 h.2 hk
    · obtain ⟨h1, h2⟩ := aOh c hb
      exact ⟨h1.trans h2.symm, _, h2⟩
  obtain ⟨h1, r, h2⟩ := key
  have e : ck1 c = r := by unfold ck1; rw [h2]; rfl
  rw [e, h1]
  exact ⟨h2, h2⟩
end Go.Lf
namespace Go.Lf
open Go.OB
mutual
def cN:Cond→Nat
  | ⟨_,_,_,_,_,_,ks⟩=>1+cNs ks
def cNs:List Cond→Nat
  | []=>0
  | c :: l=>cN c+cNs l
end
mutual
def dN:Cond→Nat
  | ⟨_,_,_,_,_,_,ks⟩=>1+dNs ks
def dNs:List Cond→Nat
  | []=>0
  | c :: l=>max (dN c) (dNs l)
end
mutual
def okC:Cond→Prop
  | ⟨k,nm,ot,op,n,fr,ks⟩=>(i64 k∧okS nm∧okS ot∧i64 op∧i64 n∧i64 fr)∧ks.length≤9223372036854775807∧okCs ks
def okCs:List Cond→Prop
  | []=>True
  | c :: l=>okC c∧okCs l
end
mutual
def fE (f:Cond→Int):Cond→Int
  | ⟨k,nm,ot,op,n,fr,ks⟩=>if f ⟨k,nm,ot,op,n,fr,ks⟩=0 then fEs f ks else f ⟨k,nm,ot,op,n,fr,ks⟩
def fEs (f:Cond→Int):List Cond→Int
  | []=>0
  | c :: l=>if fE f c=0 then fEs f l else fE f c
end
theorem tJ (c:Cond):cN c=1+cNs c.Kids:=by cases c; rfl
theorem aLv (c:Cond):dN c=1+dNs c.Kids:=by cases c; rfl
theorem aEd (f:Cond→Int)(c:Cond):fE f c=if f c=0 then fEs f c.Kids else f c:=by cases c; rfl
theorem aU (c:Cond):okC c↔(i64 c.Kind∧okS c.Name∧okS c.Other∧i64 c.Op∧i64 c.N∧i64 c.Frames)∧c.Kids.length≤9223372036854775807∧okCs c.Kids:=by cases c; rfl
theorem qN: ∀(l:List Cond),okCs l↔ ∀c ∈ l,okC c
  | []=>by simp [okCs]
  | c :: l=>by rw [okCs,qN l]; simp
theorem cN_pos (c:Cond):1≤cN c:=by rw [tJ]; omega
theorem mW (c:Cond):1≤dN c:=by rw [aLv]; omega
theorem uN: ∀l:List Cond,l.length≤cNs l
  | []=>Nat.le_refl _
  | c :: l=>by have:=uN l; have:=cN_pos c; rw [cNs,List.length_cons]; omega
theorem aRc {c:Cond}: ∀{l:List Cond},c ∈ l→cN c≤cNs l
  | a :: l,h=>by
    rw [cNs]
    rcases List.mem_cons.1 h with rfl | h
    · omega
    · have:=aRc h; omega
theorem aIn {c:Cond}: ∀{l:List Cond},c ∈ l→dN c≤dNs l
  | a :: l,h=>by
    rw [dNs]
    rcases List.mem_cons.1 h with rfl | h
    · omega
    · have:=aIn h; omega
theorem aQu {n : Nat} : ∀ {l : List Cond}, n < dNs l → ∃ x, x ∈ l ∧ n < dN x
  | [], h => by simp [dNs] at h
  | a :: l, h => by
    rw [dNs] at h
    by_cases q : n < dN a
    · exact ⟨a, List.mem_cons_self, q⟩
    · obtain ⟨x, h1, h2⟩ := aQu (l := l) (n := n) (by omega)
      exact ⟨x, List.mem_cons_of_mem _ h1, h2⟩
def stS (rf:Cond→Int→Int→Option (Bool×Int))(l:Int):Nat→Cond→Int→Int ⊕ Option (Bool×Int):=fun _ x s=>match rf x l s with
  | none=> .inr none
  | some (true,s')=> .inl s'
  | some (false,s')=> .inr (some (false,s'))
theorem aEz (rf : Cond → Int → Int → Option (Bool × Int)) (l : Nat) :
    ∀ (ks : List Cond) (_ : ∀ c ∈ ks, ∀ k : Nat, k ≤ 200 → ∃ k' : Nat, rf c (l : Int) (k : Int) = some (decide (dN c ≤ l ∧ k + cN c ≤ 200), (k' : Int)) ∧ (dN c ≤ l ∧ k + cN c ≤ 200 → k' = k + cN c)) (i k : Nat), k ≤ 200 → ∃ k' : Nat, vY (stS rf l) (fun s => some (true, s)) ks i (k : Int) = some (decide (dNs ks ≤ l ∧ k + cNs ks ≤ 200), (k' : Int)) ∧ (dNs ks ≤ l ∧ k + cNs ks ≤ 200 → k' = k + cNs ks)
  | [], _, i, k, hk => ⟨k, by simp [vY, dNs, cNs, hk], fun _ => by simp [cNs]⟩
  | c :: ks, hr, i, k, hk => by
    obtain ⟨k1, h1, h2⟩ := hr c List.mem_cons_self k hk
    rw [vY]
    simp only [stS, h1]
    by_cases hc : dN c ≤ l ∧ k + cN c ≤ 200
    · obtain rfl := h2 hc
      obtain ⟨k2, h3, h4⟩ := aEz rf l ks (fun c hc => hr c (List.mem_cons_of_mem _ hc)) (i + 1) (k + cN c) hc.2
      rw [decide_eq_true hc]
      refine ⟨k2, ?_, ?_⟩
      · simp only []
        rw [h3]
        congr 2
        rw [decide_eq_decide, dNs, cNs]
        have := hc.1
        omega
      · rw [dNs, cNs]; intro h; rw [h4 (by omega)]; omega
    · rw [decide_eq_false hc]
      refine ⟨k1, ?_, ?_⟩
      · simp only []
        congr 2
        refine (decide_eq_false ?_).symm
        rw [dNs, cNs]; omega
      · rw [dNs, cNs]; intro h; exfalso; omega
theorem aRm : ∀ (n : Nat) (c : Cond) (l k : Nat), l < n → k ≤ 200 → l ≤ 1000 → okC c → ∃ k' : Nat, Fal n c (l : Int) (k : Int) = some (decide (dN c ≤ l ∧ k + cN c ≤ 200), (k' : Int)) ∧ (dN c ≤ l ∧ k + cN c ≤ 200 → k' = k + cN c)
  | 0, _, _, _, h, _, _, _ => by omega
  | n + 1, c, l, k, h, hk, hl, ok => by
    have hlen := ((aU c).1 ok).2.1
    have oks := (qN _).1 ((aU c).1 ok).2.2
    have ew : IntKind.i64.wrap ((k : Int) + 1) = ((k + 1 : Nat) : Int) := eQ (n := 1000) (by omega) (by omega)
    show ∃ k' : Nat, Fck (Fal n) c (l : Int) (k : Int) = _ ∧ _
    unfold Fck
    simp only [zU, xY, aK, zQ, ew]
    have hd := aLv c
    have hc := tJ c
    by_cases h0 : l = 0
    · subst h0
      refine ⟨k + 1, ?_, fun q => by exfalso; omega⟩
      rw [decide_eq_true (show ((0 : Nat) : Int) = 0 from rfl), Bool.true_or, yM, decide_eq_false (by omega)]
    · by_cases h2 : 200 < k + 1
      · refine ⟨k + 1, ?_, fun q => by exfalso; omega⟩
        rw [decide_eq_true (show (200 : Int) < ((k + 1 : Nat) : Int) by omega), Bool.or_true, yM, decide_eq_false (by omega)]
      · rw [decide_eq_false (show ¬ (l : Int) = 0 by omega), decide_eq_false (show ¬ (200 : Int) < ((k + 1 : Nat) : Int) by omega), Bool.or_self, yN]
        obtain ⟨m, rfl⟩ : ∃ m, l = m + 1 := ⟨l - 1, by omega⟩
        have el : IntKind.i64.wrap (((m + 1 : Nat) : Int) - 1) = (m : Int) := by rw [wrap_i64 (by omega) (by omega)]; omega
        obtain ⟨k', h3, h4⟩ := aEz (Fal n) m c.Kids (fun x hx k hk => aRm n x m k (by omega) hk (by omega) (oks x hx)) 0 (k + 1) (by omega)
        refine ⟨k', ?_, ?_⟩
        · unfold Fd7
          simp only [zU, el]
          refine (nY (fun (i : Nat) (s : Int) => ((i : Int), s)) c.Kids (stS (Fal n) m) (fun s => some (true, s)) hlen ?_ ?_ ((k + 1 : Nat) : Int)).trans (h3.trans ?_)
          rotate_left 2
          · congr 2
            rw [decide_eq_decide]; omega
          · intro kk i s x hx
            have hi := (List.getElem?_eq_some_iff.1 hx).1
            simp only [stS]
            rw [xP hi, yM, wG hx, zQ, eQ hi hlen]
            cases Fal n x m s with
            | none => rfl
            | some r => obtain ⟨b, s'⟩ := r; cases b <;> rfl
          · intro kk s
            simp only []
            rw [xQ, yN]
        · intro q; rw [h4 (by omega)]; omega
theorem qG {n:Nat}(h:n≤1000000):n<FU:=pV (by omega)
theorem small_eq (c:Cond)(ok:okC c): ∃k':Int,Fc3 c 20 0=some (decide (dN c≤20∧cN c≤200),k'):=by
  obtain ⟨k',h1,_⟩:=aRm FU c 20 0 (qG (by decide)) (by decide) (by decide) ok
  refine ⟨k',?_⟩
  unfold Fc3
  refine h1.trans ?_
  rw [Nat.zero_add]
theorem aSn : ∀ (n : Nat) (c : Cond) (m : Nat), m < n → m ≤ 1000 → okC c → Fbw n c (m : Int) = some ((min (cN c) (m + 1) : Nat) : Int)
  | 0, _, _, h, _, _ => by omega
  | n + 1, c, m, h, hm, ok => by
    have hlen := ((aU c).1 ok).2.1
    have oks := (qN _).1 ((aU c).1 ok).2.2
    show Ffo (Fbw n) c (m : Int) = _
    unfold Ffo Fg0
    have e : fQ (fun k348 (x : Int × Int) => gG (gI (c.Kids.length : Int) fun x379 => gI (decide (x.2 < x379)) fun x384 => gQ x384 (gI (decide (x.1 ≤ (m : Int))) fun x387 => some x387) (some false)) fun g376 => gQ g376
        (gG (at' c.Kids x.2) fun x415 => gI (IntKind.i64.wrap ((m : Int) - x.1)) fun x430 => gG (Fbw n x415 x430) fun x433 => gI (IntKind.i64.wrap (x.1 + x433)) fun x437 => gI (IntKind.i64.wrap (x.2 + 1)) fun x439 => k348 (x437, x439)) (some x.1)) (1, 0) = some ((min (1 + cNs c.Kids) (m + 1) : Nat) : Int) := by
      have key : ∀ (d i s fu : Nat), i + d = c.Kids.length → d < fu → 1 ≤ s → s ≤ m + 1 → fU (fun k348 (x : Int × Int) => gG (gI (c.Kids.length : Int) fun x379 => gI (decide (x.2 < x379)) fun x384 => gQ x384 (gI (decide (x.1 ≤ (m : Int))) fun x387 => some x387) (some false)) fun g376 => gQ g376
        (gG (at' c.Kids x.2) fun x415 => gI (IntKind.i64.wrap ((m : Int) - x.1)) fun x430 => gG (Fbw n x415 x430) fun x433 => gI (IntKind.i64.wrap (x.1 + x433)) fun x437 => gI (IntKind.i64.wrap (x.2 + 1)) fun x439 => k348 (x437, x439)) (some x.1)) fu ((s : Int), (i : Int)) = some ((min (s + cNs (c.Kids.drop i)) (m + 1) : Nat) : Int) := by
        intro d
        induction d with
        | zero =>
          intro i s fu h1 h2 h3 h4
          obtain ⟨f, rfl⟩ : ∃ f, fu = f + 1 := ⟨fu - 1, by omega⟩
          obtain rfl : i = c.Kids.length := by omega
          rw [fU]
          simp only [zU, xQ, yN, zQ, List.drop_length, cNs]
          congr 2; omega
        | succ d ih =>
          intro i s fu h1 h2 h3 h4
          obtain ⟨f, rfl⟩ : ∃ f, fu = f + 1 := ⟨fu - 1, by omega⟩
          have hi : i < c.Kids.length := by omega
          obtain ⟨x, hx⟩ : ∃ x, c.Kids[i]? = some x := ⟨_, List.getElem?_eq_getElem hi⟩
          have ed : c.Kids.drop i = x :: c.Kids.drop (i + 1) := by
            rw [List.drop_eq_getElem_cons hi]
            congr 1
            exact Option.some.inj ((List.getElem?_eq_getElem hi).symm.trans hx)
          rw [fU, ed, cNs]
          simp only [zU, xP hi, yM, zQ, wG hx]
          by_cases hs : s ≤ m
          · have ew : IntKind.i64.wrap ((m : Int) - (s : Int)) = ((m - s : Nat) : Int) := by rw [wrap_i64 (by omega) (by omega)]; omega
            rw [decide_eq_true (show (s : Int) ≤ (m : Int) by omega), yM, ew, aSn n x (m - s) (by omega) (by omega) (oks x (List.mem_of_getElem? hx)), zQ]
            have ew2 : IntKind.i64.wrap ((s : Int) + ((min (cN x) (m - s + 1) : Nat) : Int)) = ((s + min (cN x) (m - s + 1) : Nat) : Int) := by rw [wrap_i64 (by omega) (by omega)]; omega
            rw [ew2, eQ hi hlen]
            refine (ih (i + 1) _ f (by omega) (by omega) (by omega) (by omega)).trans ?_
            congr 2; omega
          · rw [decide_eq_false (show ¬ (s : Int) ≤ (m : Int) by omega), yN]
            congr 2; omega
      exact key c.Kids.length 0 1 FU (by omega) (pV hlen) (by omega) (by omega)
    refine (congrArg (fun o => gG o fun g => some g) e).trans ?_
    rw [tJ]; rfl
theorem aNm : ∀ (n : Nat) (c : Cond) (m : Nat), m < n → m ≤ 1000 → okC c → Fc7 n c (m : Int) = some (decide (m < dN c))
  | 0, _, _, h, _, _ => by omega
  | n + 1, c, m, h, hm, ok => by
    have hlen := ((aU c).1 ok).2.1
    have oks := (qN _).1 ((aU c).1 ok).2.2
    have hd := aLv c
    show Fer (Fc7 n) c (m : Int) = _
    unfold Fer
    simp only [zU, xY]
    cases m with
    | zero => rw [decide_eq_true (show ((0 : Nat) : Int) = 0 from rfl), yM, decide_eq_true (by omega)]
    | succ m =>
      rw [decide_eq_false (show ¬ ((m + 1 : Nat) : Int) = 0 by omega), yN]
      have el : IntKind.i64.wrap (((m + 1 : Nat) : Int) - 1) = (m : Int) := by rw [wrap_i64 (by omega) (by omega)]; omega
      unfold Fgr
      simp only [zU, el]
      rw [xU c.Kids (fun _ x => if decide (m < dN x) = true then some (some true) else none) (some false) hlen ?_ ?_]
      · rw [qC (fun _ x => decide (m < dN x))]
        by_cases q : m + 1 < dN c
        · rw [decide_eq_true q, if_pos]
          rw [uH]
          obtain ⟨x, hx, h2⟩ := aQu (l := c.Kids) (n := m) (by omega)
          obtain ⟨j, hj⟩ := List.getElem?_of_mem hx
          exact ⟨j, x, hj, decide_eq_true h2⟩
        · rw [decide_eq_false q, if_neg]
          rw [uH]
          rintro ⟨j, x, hj, hx⟩
          have h1 := aIn (List.mem_of_getElem? hj)
          have h2 := of_decide_eq_true hx
          omega
      · intro k i x hx hi
        rw [xP hi, yM, wG hx, zQ, aNm n x m (by omega) (by omega) (oks x (List.mem_of_getElem? hx)), zQ, eQ hi hlen]
        cases decide (m < dN x) <;> rfl
      · intro k
        rw [xQ, yN]
theorem nodes_eq (c:Cond)(ok:okC c):Fgz c 200=some ((min (cN c) 201:Nat):Int):=aSn FU c 200 (qG (by decide)) (by decide) ok
theorem deeper_eq (c:Cond)(ok:okC c):Fgu c 20=some (decide (20<dN c)):=aNm FU c 20 (qG (by decide)) (by decide) ok
end Go.Lf
namespace Go.Lf
open Go.OB
theorem aCd {c:Cond}(ok:okC c):okN c:=⟨((aU c).1 ok).1.2.1,((aU c).1 ok).1.2.2.1⟩
theorem aAw (f:Cond→Int): ∀(l:List Cond) (i:Nat),dX (fun _ x=>if fE f x=0 then none else some (some (fE f x))) (some 0) l i=some (fEs f l)
  | [],_=>rfl
  | c :: l,i=>by
    rw [dX,fEs]
    by_cases h:fE f c=0
    · rw [if_pos h,if_pos h]; exact aAw f l (i+1)
    · rw [if_neg h,if_neg h]
theorem jJ {c x:Cond}{i:Nat}(ok:okC c)(hx:c.Kids[i]? =some x):okC x∧dN x<dN c∧cN x<cN c:=by
  have hm:=List.mem_of_getElem? hx
  have h1:=aIn hm
  have h2:=aRc hm
  exact ⟨(qN _).1 ((aU c).1 ok).2.2 x hm,by rw [aLv c]; omega,by rw [tJ c]; omega⟩
theorem aQw : ∀ (n : Nat) (c : Cond), dN c ≤ n → okC c → cN c ≤ 200 → Fbb n c = some (fE ck1 c)
  | 0, c, h, _, _ => by have := mW c; omega
  | n + 1, c, h, ok, hc => by
    have hlen := ((aU c).1 ok).2.1
    have hl2 := uN c.Kids
    have hcc := tJ c
    show Fce (Fbb n) c = _
    unfold Fce
    rw [(aDj c (aCd ok) (by omega)).1, zQ, aEd]
    simp only [zU, xY]
    by_cases e : ck1 c = 0
    · rw [if_pos e, decide_eq_false (by simpa using e), yN]
      unfold Ffl
      rw [xU c.Kids (fun _ x => if fE ck1 x = 0 then none else some (some (fE ck1 x))) (some 0) hlen ?_ ?_, aAw]
      · intro k i x hx hi
        obtain ⟨k1, k2, k3⟩ := jJ ok hx
        simp only [zU]
        rw [xP hi, yM, wG hx, zQ, aQw n x (by omega) k1 (by omega), zQ, eQ hi hlen]
        by_cases z : fE ck1 x = 0
        · rw [if_pos z, decide_eq_false (by simpa using z), yN]
        · rw [if_neg z, decide_eq_true z, yM]
      · intro k
        simp only [zU]
        rw [xQ, yN]
    · rw [if_neg e, decide_eq_true e, yM]
theorem aQb: ∀(n:Nat) (c:Cond),dN c≤n→okC c→cN c≤200→Fcn n c=some (fE ck1 c)
  | 0,c,h,_,_=>by have:=mW c; omega
  | n+1,c,h,ok,hc=>by
    have hlen:=((aU c).1 ok).2.1
    have hl2:=uN c.Kids
    have hcc:=tJ c
    show Fe4 (Fcn n) c=_
    unfold Fe4
    rw [(aDj c (aCd ok) (by omega)).2,zQ,aEd]
    have key: ∀(B:(Int×Int→Option Int)→Int×Int→Option Int) (_: ∀k (e i:Int),B k (e,i)=gG (gI (c.Kids.length:Int) fun x352=>gI (decide (i<x352)) fun x357=>gQ x357 (gI (decide (e=0)) fun x360=>some x360) (some false)) fun g349=>gQ g349 (gG (at' c.Kids i) fun x384=>gG (Fcn n x384) fun x400=>gI (IntKind.i64.wrap (i+1)) fun x404=>k (x400,x404)) (some e)) (d i:Nat) (e:Int) (fu:Nat),i+d=c.Kids.length→d<fu→fU B fu (e,(i:Int))=some (if e=0 then fEs ck1 (c.Kids.drop i) else e):=by
      intro B hB d
      induction d with
      | zero=>
        intro i e fu h1 h2
        obtain ⟨f,rfl⟩: ∃f,fu=f+1:=⟨fu - 1,by omega⟩
        obtain rfl:i=c.Kids.length:=by omega
        rw [fU,hB]
        simp only [zU,xQ,yN,zQ,List.drop_length,fEs]
        split<;>simp_all
      | succ d ih=>
        intro i e fu h1 h2
        obtain ⟨f,rfl⟩: ∃f,fu=f+1:=⟨fu - 1,by omega⟩
        have hi:i<c.Kids.length:=by omega
        obtain ⟨x,hx⟩: ∃x,c.Kids[i]? =some x:=⟨_,List.getElem?_eq_getElem hi⟩
        have ed:c.Kids.drop i=x :: c.Kids.drop (i+1):=by
          rw [List.drop_eq_getElem_cons hi]
          congr 1
          exact Option.some.inj ((List.getElem?_eq_getElem hi).symm.trans hx)
        obtain ⟨k1,k2,k3⟩:=jJ ok hx
        rw [fU,hB,ed,fEs]
        simp only [zU,xP hi,yM,zQ,wG hx]
        by_cases z:e=0
        · rw [decide_eq_true z,yM,aQb n x (by omega) k1 (by omega),zQ,eQ hi hlen,ih (i+1) _ f (by omega) (by omega),if_pos z]
        · rw [decide_eq_false z,yN,if_neg z]
    unfold Fgo fQ
    refine (congrArg (fun o=>gG o fun g=>some g) (key _ (fun _ _ _=>rfl) c.Kids.length 0 (ck1 c) FU (by omega) (pV hlen))).trans ?_
    rw [zQ,List.drop_zero]
def ckC (c:Cond):Int:=if dN c≤20∧cN c≤200 then fE ck1 c else 3
theorem aAr (c : Cond) (ok : okC c) : Fbo c = some (ckC c) := by
  unfold Fbo ckC
  obtain ⟨k', h⟩ := small_eq c ok
  rw [h, zQ]
  simp only [zU]
  by_cases q : dN c ≤ 20 ∧ cN c ≤ 200
  · rw [if_pos q, decide_eq_true q, Bool.not_true, yN]
    unfold Ffi
    rw [aQw FU c (Nat.le_of_lt (qG (by omega))) ok q.2]; rfl
  · rw [if_neg q, decide_eq_false q, Bool.not_false, yM]
theorem vF (c : Cond) (ok : okC c) : Fbh c = some (ckC c) := by
  unfold Fbh ckC
  rw [nodes_eq c ok, zQ]
  simp only [zU]
  rw [deeper_eq c ok, zQ, aK, zQ]
  by_cases q : dN c ≤ 20 ∧ cN c ≤ 200
  · have e1 : decide ((200 : Int) < ((min (cN c) 201 : Nat) : Int)) = false := decide_eq_false (by omega)
    have e2 : decide (20 < dN c) = false := decide_eq_false (by omega)
    rw [if_pos q, e1, e2, Bool.or_self, yN]
    unfold Ff6
    rw [aQb FU c (Nat.le_of_lt (qG (by omega))) ok q.2]; rfl
  · have e : (decide ((200 : Int) < ((min (cN c) 201 : Nat) : Int)) || decide (20 < dN c)) = true := by
      rw [Bool.or_eq_true, decide_eq_true_eq, decide_eq_true_eq]; omega
    rw [if_neg q, e, yM]
theorem sH {c:Cond}(h:ckC c=0):dN c≤20∧cN c≤200∧fE ck1 c=0:=by
  unfold ckC at h
  split at h
  · rename_i q; exact ⟨q.1,q.2,h⟩
  · exact absurd h (by decide)
end Go.Lf
namespace Go.Lf
open Go.OB
section
variable {α:Type}
theorem uJ (p : α → Bool) : ∀ (l : List α) (i : Nat), ∃ n : Int, dX (fun (i : Nat) x => if p x = true then some (some (i : Int)) else none) (some (-1)) l i = some n ∧
    ((n = -1 ∧ ∀ (j : Nat) x, l[j]? = some x → p x = false) ∨ ∃ j : Nat, n = ((i + j : Nat) : Int) ∧ (∃ x, l[j]? = some x ∧ p x = true) ∧ ∀ (m : Nat) y, m < j → l[m]? = some y → p y = false)
  | [], i => ⟨-1, rfl, .inl ⟨rfl, fun j x h => by simp at h⟩⟩
  | a :: l, i => by
    rw [dX]
    by_cases h : p a = true
    · rw [if_pos h]
      exact ⟨_, rfl, .inr ⟨0, by simp, ⟨a, rfl, h⟩, fun m y hm => by omega⟩⟩
    · rw [if_neg h]
      have hf : p a = false := by simpa using h
      obtain ⟨n, h1, h2⟩ := uJ p l (i + 1)
      refine ⟨n, h1, ?_⟩
      rcases h2 with ⟨h2, h3⟩ | ⟨j, h2, h3, h4⟩
      · refine .inl ⟨h2, fun j x hx => ?_⟩
        cases j with
        | zero => simp at hx; subst hx; exact hf
        | succ j => exact h3 j x (by simpa using hx)
      · refine .inr ⟨j + 1, by rw [h2]; congr 1; omega, ?_, fun m y hm hy => ?_⟩
        · obtain ⟨x, q1, q2⟩ := h3; exact ⟨x, by simpa using q1, q2⟩
        · cases m with
          | zero => simp at hy; subst hy; exact hf
          | succ m => exact h4 m y (by omega) (by simpa using hy)
theorem aQq (p:α→Bool)(l:List α):l.any p=true↔ ∃(j:Nat) (x:α),l[j]? =some x∧p x=true:=by
  rw [List.any_eq_true]
  constructor
  · rintro ⟨x,h,hp⟩; obtain ⟨j,hj⟩:=List.getElem?_of_mem h; exact ⟨j,x,hj,hp⟩
  · rintro ⟨j,x,h,hp⟩; exact ⟨x,List.mem_of_getElem? h,hp⟩
theorem aPv {p : α → Bool} {l : List α} {n : Int} (h : (n = -1 ∧ ∀ (j : Nat) x, l[j]? = some x → p x = false) ∨ ∃ j : Nat, n = ((0 + j : Nat) : Int) ∧ (∃ x, l[j]? = some x ∧ p x = true) ∧ ∀ (m : Nat) y, m < j → l[m]? = some y → p y = false) : decide (0 ≤ n) = l.any p := by
  rw [Bool.eq_iff_iff, decide_eq_true_eq, aQq]
  rcases h with ⟨rfl, h⟩ | ⟨j, rfl, ⟨x, h1, h2⟩, _⟩
  · constructor
    · intro h; omega
    · rintro ⟨j, x, h1, h2⟩; rw [h j x h1] at h2; cases h2
  · exact ⟨fun _ => ⟨j, x, h1, h2⟩, fun _ => by omega⟩
theorem aRd {p : α → Bool} {l : List α} {n : Int} (h : (n = -1 ∧ ∀ (j : Nat) x, l[j]? = some x → p x = false) ∨ ∃ j : Nat, n = ((0 + j : Nat) : Int) ∧ (∃ x, l[j]? = some x ∧ p x = true) ∧ ∀ (m : Nat) y, m < j → l[m]? = some y → p y = false) (i : Nat) : decide (0 ≤ n ∧ n < (i : Int)) = (l.take i).any p := by
  rw [Bool.eq_iff_iff, decide_eq_true_eq, aQq]
  rcases h with ⟨rfl, h⟩ | ⟨j, rfl, ⟨x, h1, h2⟩, h3⟩
  · constructor
    · intro h; omega
    · rintro ⟨j, x, h1, h2⟩
      rw [List.getElem?_take] at h1
      split at h1
      · rw [h j x h1] at h2; cases h2
      · cases h1
  · constructor
    · intro q; exact ⟨j, x, by rw [List.getElem?_take, if_pos (by omega)]; exact h1, h2⟩
    · rintro ⟨m, y, q1, q2⟩
      rw [List.getElem?_take] at q1
      split at q1
      · rename_i hm
        by_cases hj : m < j
        · rw [h3 m y hj q1] at q2; cases q2
        · omega
      · cases q1
theorem ix_self {p:α→Bool}{l:List α}{n:Int}(h:(n= -1∧ ∀(j:Nat) x,l[j]? =some x→p x=false)∨ ∃j:Nat,n=((0+j:Nat):Int)∧(∃x,l[j]? =some x∧p x=true)∧ ∀(m:Nat) y,m<j→l[m]? =some y→p y=false){i:Nat}{x:α}(hx:l[i]? =some x)(hp:p x=true):0≤n:=by
  rcases h with ⟨rfl,h⟩ | ⟨j,rfl,_,_⟩
  · rw [h i x hx] at hp; cases hp
  · omega
theorem aFp (l:List α)(i:Nat)(hi:i≤l.length):sub' l 0 (i:Int)=some (l.take i):=by
  unfold sub'
  rw [if_pos ⟨by omega,by omega,by omega⟩]
  simp
end
theorem aEm (l : List Str) (c : Str) (hl : l.length ≤ 9223372036854775807) : Faq l c = some (l.any fun y => decide (c = y)) := by
  unfold Faq Fae
  simp only [zU, xY]
  unfold Fdu
  obtain ⟨n, h1, h2⟩ := uJ (fun y => decide (c = y)) l 0
  rw [xU l (fun i x => if decide (c = x) = true then some (some (i : Int)) else none) (some (-1)) hl ?_ ?_, h1, zQ, aPv h2]
  · intro k i x hx hi
    simp only [zU]
    rw [xP hi, yM, wG hx, zQ, eQ hi hl]
    cases decide (c = x) <;> rfl
  · intro k
    simp only [zU]
    rw [xQ, yN]
theorem wX (l : List Str) (c : Str) (hl : l.length ≤ 9223372036854775807) : ∃ n, Fau l c = some n ∧ decide (0 ≤ n) = l.any fun y => decide (c = y) := by
  unfold Fau
  simp only [xY]
  unfold Fgb
  obtain ⟨n, h1, h2⟩ := uJ (fun y => decide (y = c)) l 0
  refine ⟨n, ?_, ?_⟩
  · rw [xU l (fun i x => if decide (x = c) = true then some (some (i : Int)) else none) (some (-1)) hl ?_ ?_, h1]
    · intro k i x hx hi
      simp only [zU]
      rw [xP hi, yM, wG hx, zQ, eQ hi hl]
      cases decide (x = c) <;> rfl
    · intro k
      simp only [zU]
      rw [xQ, yN]
  · rw [aPv h2]
    congr 1
    funext y
    exact decide_eq_decide.2 eq_comm
def nmd (l:List dE)(s:Str):Bool:=l.any fun y=>decide (y.Name=s)
theorem aKl (s : Str) (r : Rules) (i : Nat) (hi : i ≤ r.Rules.length) (hl : r.Rules.length ≤ 9223372036854775807) : Fbp s r (i : Int) = some (nmd (r.Rules.take i) s) := by
  unfold Fbp
  rw [aFp _ _ hi, zQ]
  unfold Fc5 Fds
  simp only [zU, xY]
  unfold Fe7
  have hl2 : (r.Rules.take i).length ≤ 9223372036854775807 := by rw [List.length_take]; omega
  generalize r.Rules.take i = l at *
  obtain ⟨n, h1, h2⟩ := uJ (fun y : dE => decide (y.Name = s)) l 0
  rw [xU l (fun i x => if decide (x.Name = s) = true then some (some (i : Int)) else none) (some (-1)) hl2 ?_ ?_, h1, zQ, aPv h2]
  · rfl
  · intro k i x hx hi
    simp only [zU, Fdv]
    rw [xP hi, yM, wG hx, zQ, zQ, eQ hi hl2]
    cases decide (x.Name = s) <;> rfl
  · intro k
    simp only [zU]
    rw [xQ, yN]
theorem aIb (s : Str) (r : Rules) (hl : r.Rules.length ≤ 9223372036854775807) : ∃ n, Fah r s = some n ∧ (∀ i : Nat, decide (0 ≤ n ∧ n < (i : Int)) = nmd (r.Rules.take i) s) ∧ ∀ (i : Nat) x, r.Rules[i]? = some x → x.Name = s → 0 ≤ n := by
  unfold Fah
  simp only [xY]
  unfold Fex
  obtain ⟨n, h1, h2⟩ := uJ (fun y : dE => decide (y.Name = s)) r.Rules 0
  refine ⟨n, ?_, fun i => aRd h2 i, fun i x hx hs => ix_self h2 hx (decide_eq_true hs)⟩
  rw [xU r.Rules (fun i x => if decide (x.Name = s) = true then some (some (i : Int)) else none) (some (-1)) hl ?_ ?_, h1]
  · intro k i x hx hi
    simp only [zU]
    rw [xP hi, yM, wG hx, zQ, eQ hi hl]
    cases decide (x.Name = s) <;> rfl
  · intro k
    simp only [zU]
    rw [xQ, yN]
end Go.Lf
namespace Go.Lf
open Go.OB
def mv1 (c:Cond):Int:=if c.Kind=6∨c.Kind=7 then 2 else 0
theorem mv1_eq (c : Cond) : Fci c = some (mv1 c) := by
  unfold Fci mv1
  simp only [zU, aK, zQ]
  by_cases h : c.Kind = 6 ∨ c.Kind = 7
  · have e : (decide (c.Kind = 6) || decide (c.Kind = 7)) = true := by rw [Bool.or_eq_true, decide_eq_true_eq, decide_eq_true_eq]; exact h
    rw [if_pos h, e, yM]
  · have e : (decide (c.Kind = 6) || decide (c.Kind = 7)) = false := by rw [Bool.or_eq_false_iff, decide_eq_false_iff_not, decide_eq_false_iff_not]; exact not_or.1 h
    rw [if_neg h, e, yN]
theorem aSj : ∀ (n : Nat) (c : Cond), dN c ≤ n → okC c → Fbk n c = some (fE mv1 c)
  | 0, c, h, _ => by have := mW c; omega
  | n + 1, c, h, ok => by
    have hlen := ((aU c).1 ok).2.1
    show Fb4 (Fbk n) c = _
    unfold Fb4
    rw [mv1_eq, zQ, aEd]
    simp only [zU, xY]
    by_cases e : mv1 c = 0
    · rw [if_pos e, decide_eq_false (by simpa using e), yN]
      unfold Fev
      rw [xU c.Kids (fun _ x => if fE mv1 x = 0 then none else some (some (fE mv1 x))) (some 0) hlen ?_ ?_, aAw]
      · intro k i x hx hi
        obtain ⟨k1, k2, k3⟩ := jJ ok hx
        simp only [zU]
        rw [xP hi, yM, wG hx, zQ, aSj n x (by omega) k1, zQ, eQ hi hlen]
        by_cases z : fE mv1 x = 0
        · rw [if_pos z, decide_eq_false (by simpa using z), yN]
        · rw [if_neg z, decide_eq_true z, yM]
      · intro k
        simp only [zU]
        rw [xQ, yN]
    · rw [if_neg e, decide_eq_true e, yM]
mutual
def aV (p:Cond→Bool):Cond→Bool
  | ⟨k,nm,ot,op,n,fr,ks⟩=>p ⟨k,nm,ot,op,n,fr,ks⟩ || rW p ks
def rW (p:Cond→Bool):List Cond→Bool
  | []=>false
  | c :: l=>aV p c || rW p l
end
theorem uS (p:Cond→Bool)(c:Cond):aV p c=(p c || rW p c.Kids):=by cases c; rfl
theorem wQ (p:Cond→Bool): ∀(l:List Cond) (i:Nat),dX (fun _ x=>if aV p x=true then some (some true) else none) (some false) l i=some (rW p l)
  | [],_=>rfl
  | c :: l,i=>by
    rw [dX,rW]
    cases h:aV p c with
    | true=>rfl
    | false=>exact wQ p l (i+1)
mutual
theorem aPf (f:Cond→Int)(p:Cond→Bool)(e:Int)(h0:e≠0)(h: ∀c,f c=if p c=true then e else 0): ∀c,fE f c=if aV p c=true then e else 0
  | ⟨k,nm,ot,op,n,fr,ks⟩=>by
    rw [fE,aV,h]
    cases p ⟨k,nm,ot,op,n,fr,ks⟩ with
    | true=>simp [h0]
    | false=>simpa using aQo f p e h0 h ks
theorem aQo (f:Cond→Int)(p:Cond→Bool)(e:Int)(h0:e≠0)(h: ∀c,f c=if p c=true then e else 0): ∀l,fEs f l=if rW p l=true then e else 0
  | []=>rfl
  | c :: l=>by
    rw [fEs,rW,aPf f p e h0 h c]
    cases aV p c with
    | true=>simp [h0]
    | false=>simpa using aQo f p e h0 h l
end
def pMv (c:Cond):Bool:=decide (c.Kind=6) || decide (c.Kind=7)
theorem aMx : ∀ (n : Nat) (c : Cond), dN c ≤ n → okC c → Fdn n c = some (aV pMv c)
  | 0, c, h, _ => by have := mW c; omega
  | n + 1, c, h, ok => by
    have hlen := ((aU c).1 ok).2.1
    show Fes (Fdn n) c = _
    unfold Fes
    simp only [zU, xY, aK, zQ]
    rw [uS]
    show gQ (pMv c) _ _ = _
    cases pMv c with
    | true => rfl
    | false =>
      rw [yN, Bool.false_or]
      unfold Fgk
      rw [xU c.Kids (fun _ x => if aV pMv x = true then some (some true) else none) (some false) hlen ?_ ?_, wQ]
      · intro k i x hx hi
        obtain ⟨k1, k2, k3⟩ := jJ ok hx
        simp only [zU]
        rw [xP hi, yM, wG hx, zQ, aMx n x (by omega) k1, zQ, eQ hi hlen]
        cases aV pMv x <;> rfl
      · intro k
        simp only [zU]
        rw [xQ, yN]
theorem mv1_p (c:Cond):mv1 c=if pMv c=true then 2 else 0:=by
  unfold mv1 pMv
  simp only [Bool.or_eq_true,decide_eq_true_eq]
def mvE (r:Rules)(m:bK):Int:=
  if (r.Phases.any fun y=>decide (m.From=y))=true∧(r.Phases.any fun y=>decide (m.To=y))=true then
    if ckC m.When=0 then if aV pMv m.When=true then 2 else 0 else ckC m.When
  else 4
theorem move_eq (r : Rules) (m : bK) (hl : r.Phases.length ≤ 9223372036854775807) (ok : okC m.When) : Fcz r m = some (mvE r m) := by
  unfold Fcz mvE
  simp only [zU, xY]
  unfold Feh
  rw [xU [m.From, m.To] (fun _ x => if (r.Phases.any fun y => decide (x = y)) = true then none else some (some 4)) (if ckC m.When = 0 then some (if aV pMv m.When = true then 2 else 0) else some (ckC m.When)) (show (2 : Nat) ≤ _ by omega) ?_ ?_]
  · simp only [dX]
    cases (r.Phases.any fun y => decide (m.From = y)) <;> cases (r.Phases.any fun y => decide (m.To = y)) <;> simp <;> split <;> rfl
  · intro k i x hx hi
    simp only [zU]
    rw [xP hi, yM, wG hx, zQ, aEm _ _ hl, zQ, eQ hi (show (2 : Nat) ≤ _ by omega)]
    cases (r.Phases.any fun y => decide (x = y)) <;> rfl
  · intro k
    simp only [zU]
    rw [xQ, yN, aAr _ ok, zQ]
    by_cases z : ckC m.When = 0
    · have g := sH z
      rw [if_pos z, decide_eq_false (by simpa using z), yN]
      unfold Ff1
      rw [aSj FU m.When (Nat.le_of_lt (qG (by omega))) ok, zQ, aPf mv1 pMv 2 (by decide) mv1_p]
    · rw [if_neg z, decide_eq_true z, yM]
theorem aOv (r : Rules) (m : bK) (hl : r.Phases.length ≤ 9223372036854775807) (ok : okC m.When) (k : Option Int) :
    (gG (gG (Fau r.Phases m.From) fun x1967 => gI (decide (x1967 < 0)) fun x1971 => gQ x1971 (some true) (gG (Fau r.Phases m.To) fun x1975 => gI (decide (x1975 < 0)) fun x1979 => some x1979)) fun g1963 =>
      gQ g1963 (some 4) (gG (Fbh m.When) fun x1997 => gI (decide (x1997 ≠ 0)) fun x2002 => gQ x2002 (some x1997) (gG (Fft m.When) fun x2008 => gQ x2008 (some 2) k))) =
    if mvE r m = 0 then k else some (mvE r m) := by
  obtain ⟨n1, h1, h2⟩ := wX r.Phases m.From hl
  obtain ⟨n2, h3, h4⟩ := wX r.Phases m.To hl
  have neg : ∀ n : Int, decide (n < 0) = !decide (0 ≤ n) := fun n => by rw [← decide_not]; exact decide_eq_decide.2 (by omega)
  unfold mvE
  rw [h1, zQ]
  simp only [zU]
  rw [neg n1, h2, h3, vF _ ok]
  simp only [zQ]
  rw [neg n2, h4]
  cases (r.Phases.any fun y => decide (m.From = y)) with
  | false => simp [gQ, gG]
  | true =>
    cases (r.Phases.any fun y => decide (m.To = y)) with
    | false => simp [gQ, gG]
    | true =>
      simp only [Bool.not_true, yN, zQ, and_self, if_true]
      by_cases z : ckC m.When = 0
      · have g := sH z
        have e : Fft m.When = some (aV pMv m.When) := aMx FU m.When (Nat.le_of_lt (qG (by omega))) ok
        rw [if_pos z, decide_eq_false (by simpa using z), yN, e, zQ]
        cases aV pMv m.When <;> simp [gQ]
      · rw [if_neg z, decide_eq_true z, yM, if_neg z]
def pRl (r:Rules)(i:Nat)(c:Cond):Bool:=(decide (c.Kind=6) && !(r.Phases.any fun y=>decide (c.Name=y))) || (decide (c.Kind=7) && !nmd (r.Rules.take i) c.Name)
def rl1 (r:Rules)(i:Nat)(c:Cond):Int:=if pRl r i c=true then 4 else 0
theorem rl1_eq (r:Rules)(i:Nat)(c:Cond)(hp:r.Phases.length≤9223372036854775807)(hr:r.Rules.length≤9223372036854775807)(hi:i≤r.Rules.length):Fca c r (i:Int)=some (rl1 r i c):=by
  unfold Fca rl1 pRl
  rw [aEm _ _ hp,aKl _ _ _ hi hr]
  simp only [zU,zQ]
  generalize decide (c.Kind=6)=a
  generalize decide (c.Kind=7)=b
  generalize (r.Phases.any fun y=>decide (c.Name=y))=d
  generalize nmd (r.Rules.take i) c.Name=e
  cases a<;>cases b<;>cases d<;>cases e<;>rfl
theorem aQp (r : Rules) (i : Nat) (hp : r.Phases.length ≤ 9223372036854775807) (hr : r.Rules.length ≤ 9223372036854775807) (hi : i ≤ r.Rules.length) : ∀ (n : Nat) (c : Cond), dN c ≤ n → okC c → Fby n c r (i : Int) = some (fE (rl1 r i) c)
  | 0, c, h, _ => by have := mW c; omega
  | n + 1, c, h, ok => by
    have hlen := ((aU c).1 ok).2.1
    show Fcq (Fby n) c r (i : Int) = _
    unfold Fcq
    rw [rl1_eq r i c hp hr hi, zQ, aEd]
    simp only [zU, xY]
    by_cases e : rl1 r i c = 0
    · rw [if_pos e, decide_eq_false (by simpa using e), yN]
      unfold Feg
      rw [xU c.Kids (fun _ x => if fE (rl1 r i) x = 0 then none else some (some (fE (rl1 r i) x))) (some 0) hlen ?_ ?_, aAw]
      · intro k j x hx hj
        obtain ⟨k1, k2, k3⟩ := jJ ok hx
        simp only [zU]
        rw [xP hj, yM, wG hx, zQ, aQp r i hp hr hi n x (by omega) k1, zQ, eQ hj hlen]
        by_cases z : fE (rl1 r i) x = 0
        · rw [if_pos z, decide_eq_false (by simpa using z), yN]
        · rw [if_neg z, decide_eq_true z, yM]
      · intro k
        simp only [zU]
        rw [xQ, yN]
    · rw [if_neg e, decide_eq_true e, yM]
theorem aHa (r : Rules) (i : Nat) (hp : r.Phases.length ≤ 9223372036854775807) (hr : r.Rules.length ≤ 9223372036854775807) : ∀ (n : Nat) (c : Cond), dN c ≤ n → okC c → Fcj n r (i : Int) c = some (aV (pRl r i) c)
  | 0, c, h, _ => by have := mW c; omega
  | n + 1, c, h, ok => by
    have hlen := ((aU c).1 ok).2.1
    obtain ⟨n1, h1, h2⟩ := wX r.Phases c.Name hp
    obtain ⟨n2, h3, h4, _⟩ := aIb c.Name r hr
    have neg : ∀ n : Int, decide (n < 0) = !decide (0 ≤ n) := fun n => by rw [← decide_not]; exact decide_eq_decide.2 (by omega)
    have kids : Fd6 (Fcj n) r (i : Int) c (fun _ => some false) 0 = some (rW (pRl r i) c.Kids) := by
      unfold Fd6
      rw [xU c.Kids (fun _ x => if aV (pRl r i) x = true then some (some true) else none) (some false) hlen ?_ ?_, wQ]
      · intro k j x hx hj
        obtain ⟨k1, k2, k3⟩ := jJ ok hx
        simp only [zU]
        rw [xP hj, yM, wG hx, zQ, aHa r i hp hr n x (by omega) k1, zQ, eQ hj hlen]
        cases aV (pRl r i) x <;> rfl
      · intro k
        simp only [zU]
        rw [xQ, yN]
    show Ffe (Fcj n) r (i : Int) c = _
    unfold Ffe
    simp only [zU, xY]
    rw [h1, h3]
    simp only [zQ, aK]
    rw [neg n1, h2, kids, uS]
    have e2 : (decide (n2 < 0) || decide ((i : Int) ≤ n2)) = !nmd (r.Rules.take i) c.Name := by
      rw [← h4 i, ← decide_not, Bool.eq_iff_iff, Bool.or_eq_true, decide_eq_true_eq, decide_eq_true_eq, decide_eq_true_eq]; omega
    rw [e2]
    unfold pRl
    generalize decide (c.Kind = 6) = a
    generalize decide (c.Kind = 7) = b
    generalize (r.Phases.any fun y => decide (c.Name = y)) = d
    generalize nmd (r.Rules.take i) c.Name = e
    cases a <;> cases b <;> cases d <;> cases e <;> rfl
def rlE (r:Rules)(i:Nat)(x:dE):Int:=
  if sZ x.Name=true then if nmd (r.Rules.take i) x.Name=true then 5 else if ckC x.When=0 then if aV (pRl r i) x.When=true then 4 else 0 else ckC x.When else 8
theorem rule_eq (r : Rules) (i : Nat) (x : dE) (hx : r.Rules[i]? = some x) (hp : r.Phases.length ≤ 9223372036854775807) (hr : r.Rules.length ≤ 9223372036854775807) (hn : okS x.Name) (ok : okC x.When) : Fb3 r (i : Int) = some (rlE r i x) := by
  have hi : i ≤ r.Rules.length := Nat.le_of_lt (List.getElem?_eq_some_iff.1 hx).1
  unfold Fb3 rlE
  rw [wG hx, zQ, qJ _ hn, zQ, aKl _ _ _ hi hr, aAr _ ok]
  simp only [zU, zQ]
  cases sZ x.Name with
  | false => rfl
  | true =>
    cases nmd (r.Rules.take i) x.Name with
    | true => rfl
    | false =>
      simp only [Bool.not_true, yN, if_true, Bool.false_eq_true, if_false]
      by_cases z : ckC x.When = 0
      · have g := sH z
        rw [if_pos z, decide_eq_false (by simpa using z), yN]
        unfold Fe9
        rw [aQp r i hp hr hi FU x.When (Nat.le_of_lt (qG (by omega))) ok, zQ, aPf (rl1 r i) (pRl r i) 4 (by decide) (fun _ => rfl)]
      · rw [if_neg z, decide_eq_true z, yM]
theorem aPg (r : Rules) (i : Nat) (x : dE) (hx : r.Rules[i]? = some x) (hp : r.Phases.length ≤ 9223372036854775807) (hr : r.Rules.length ≤ 9223372036854775807) (hn : okS x.Name) (ok : okC x.When) (k : Option Int) :
    (gG (Fa1 x.Name) fun x3834 => gI (!x3834) fun x3838 => gQ x3838 (some 8) (gG (at' r.Rules (i : Int)) fun x3873 => gG (Fah r x3873.Name) fun x3889 => gI (decide (x3889 < (i : Int))) fun x3893 => gQ x3893 (some 5)
      (gG (at' r.Rules (i : Int)) fun x3925 => gG (Fbh x3925.When) fun x3941 => gI (decide (x3941 ≠ 0)) fun x3946 => gQ x3946 (some x3941) (gG (at' r.Rules (i : Int)) fun x3953 => gG (Ffu r (i : Int) x3953.When) fun x3969 => gQ x3969 (some 4) k)))) =
    if rlE r i x = 0 then k else some (rlE r i x) := by
  obtain ⟨n, h1, h2, h3⟩ := aIb x.Name r hr
  have h0 := h3 i x hx rfl
  unfold rlE
  rw [aN _ hn, zQ, wG hx]
  simp only [zU, zQ]
  rw [h1, zQ, vF _ ok, zQ]
  have e : decide (n < (i : Int)) = nmd (r.Rules.take i) x.Name := by rw [← h2 i]; exact decide_eq_decide.2 (by omega)
  rw [e]
  cases sZ x.Name with
  | false => simp [gQ]
  | true =>
    cases nmd (r.Rules.take i) x.Name with
    | true => simp [gQ]
    | false =>
      simp only [Bool.not_true, yN, if_true, Bool.false_eq_true, if_false]
      by_cases z : ckC x.When = 0
      · have g := sH z
        have e : Ffu r (i : Int) x.When = some (aV (pRl r i) x.When) := aHa r i hp hr FU x.When (Nat.le_of_lt (qG (by omega))) ok
        rw [if_pos z, decide_eq_false (by simpa using z), yN, e, zQ]
        cases aV (pRl r i) x.When <;> simp [gQ]
      · rw [if_neg z, decide_eq_true z, yM, if_neg z]
def okR (r:Rules):Prop:=okL okS r.Phases∧okL (fun m:bK=>okS m.From∧okS m.To∧okC m.When) r.Moves∧okL (fun x:dE=>okS x.Name∧okC x.When) r.Rules
def phE (l:List Str)(i:Nat)(x:Str):Int:=if sZ x=true then if ((l.take i).any fun y=>decide (x=y))=true then 5 else 0 else 8
def chk (r:Rules):Option Int:=
  if (decide (20<(r.Phases.length:Int)) || decide (60<(r.Moves.length:Int))) || decide (60<(r.Rules.length:Int)) then some 3
  else dX (fun i x=>if phE r.Phases i x=0 then none else some (some (phE r.Phases i x))) (dX (fun _ m=>if mvE r m=0 then none else some (some (mvE r m))) (dX (fun i x=>if rlE r i x=0 then none else some (some (rlE r i x))) (some 0) r.Rules 0) r.Moves 0) r.Phases 0
theorem aEp (r : Rules) (ok : okR r) : Fay r = chk r := by
  obtain ⟨⟨p1, p2⟩, ⟨m1, m2⟩, ⟨r1, r2⟩⟩ := ok
  unfold Fay chk
  simp only [zU, xY, aK, zQ]
  rw [kC]
  congr 1
  unfold Ffs
  refine xU r.Phases _ _ p1 (fun k i x hx hi => ?_) (fun k => ?_)
  · have hm := p2 x (List.mem_of_getElem? hx)
    simp only [zU]
    rw [xP hi, yM, wG hx, zQ, qJ _ hm, zQ, aFp _ _ (Nat.le_of_lt hi), zQ, aEm _ _ (by rw [List.length_take]; omega), zQ, eQ hi p1]
    unfold phE
    cases sZ x <;> cases ((r.Phases.take i).any fun y => decide (x = y)) <;> rfl
  · simp only [zU]
    rw [xQ, yN]
    unfold Fep
    refine xU r.Moves _ _ m1 (fun k i x hx hi => ?_) (fun k => ?_)
    · have hm := m2 x (List.mem_of_getElem? hx)
      simp only [zU]
      rw [xP hi, yM, wG hx, zQ, move_eq r x p1 hm.2.2, zQ, eQ hi m1]
      by_cases z : mvE r x = 0
      · rw [if_pos z, decide_eq_false (by simpa using z), yN]
      · rw [if_neg z, decide_eq_true z, yM]
    · simp only [zU]
      rw [xQ, yN]
      unfold Ff2
      refine xU r.Rules _ _ r1 (fun k i x hx hi => ?_) (fun k => ?_)
      · have hm := r2 x (List.mem_of_getElem? hx)
        simp only [zU]
        rw [xP hi, yM, rule_eq r i x hx p1 r1 hm.1 hm.2, zQ, eQ hi r1]
        by_cases z : rlE r i x = 0
        · rw [if_pos z, decide_eq_false (by simpa using z), yN]
        · rw [if_neg z, decide_eq_true z, yM]
      · simp only [zU]
        rw [xQ, yN]
theorem rCheck_eq (r : Rules) (ok : okR r) : Fel r = chk r := by
  obtain ⟨⟨p1, p2⟩, ⟨m1, m2⟩, ⟨r1, r2⟩⟩ := ok
  unfold Fel chk
  simp only [zU, xY, aK, zQ]
  rw [kC]
  congr 1
  unfold Ff5
  refine xU r.Phases _ _ p1 (fun k i x hx hi => ?_) (fun k => ?_)
  · have hm := p2 x (List.mem_of_getElem? hx)
    obtain ⟨n, h1, h2⟩ := wX (r.Phases.take i) x (by rw [List.length_take]; omega)
    simp only [zU]
    rw [xP hi, yM, wG hx, zQ, aN _ hm, zQ, aFp _ _ (Nat.le_of_lt hi), zQ, zQ, h1, zQ, h2, eQ hi p1]
    unfold phE
    cases sZ x <;> cases ((r.Phases.take i).any fun y => decide (x = y)) <;> rfl
  · simp only [zU]
    rw [xQ, yN]
    unfold Fgl
    refine xU r.Moves _ _ m1 (fun k i x hx hi => ?_) (fun k => ?_)
    · have hm := m2 x (List.mem_of_getElem? hx)
      have st := aOv r x p1 hm.2.2 (k ((i + 1 : Nat) : Int))
      simp only [zU] at st ⊢
      rw [xP hi, yM, wG hx, zQ, eQ hi m1, st]
      by_cases z : mvE r x = 0
      · rw [if_pos z, if_pos z]
      · rw [if_neg z, if_neg z]
    · simp only [zU]
      rw [xQ, yN]
      unfold Fge
      refine xU r.Rules _ _ r1 (fun k i x hx hi => ?_) (fun k => ?_)
      · have hm := r2 x (List.mem_of_getElem? hx)
        have st := aPg r i x hx p1 r1 hm.1 hm.2 (k ((i + 1 : Nat) : Int))
        simp only [zU] at st ⊢
        rw [xP hi, yM, wG hx, zQ, eQ hi r1]
        rw [wG hx] at st
        rw [st]
        by_cases z : rlE r i x = 0
        · rw [if_pos z, if_pos z]
        · rw [if_neg z, if_neg z]
      · simp only [zU]
        rw [xQ, yN]
end Go.Lf
namespace Go.Lf
open Go.OB
theorem aBg {s:Str}(h:sZ s=true):s.length≤30:=by
  unfold sZ at h
  simp only [Bool.and_eq_true,decide_eq_true_eq] at h
  omega
structure Gd (c:Cond):Prop where
  k1:1≤c.Kind∧c.Kind≤15
  nm:c.Name.length≤30
  ot:c.Other.length≤30
  op:0≤c.Op∧c.Op≤6
  n: -1125899906842624≤c.N∧c.N≤1125899906842624
  fr:0≤c.Frames∧c.Frames≤4096
set_option maxHeartbeats 20000000 in
theorem gd_in (nm ot:Str)(op n fr:Int)(ks:List Cond)(k:Int)(hk2:k=1∨k=2∨k=3∨k=4∨k=5∨k=6∨k=7∨k=8∨k=9∨k=10∨k=11∨k=12∨k=13∨k=14∨k=15)(h1:okS nm)(h2:okS ot)(h:Fac ⟨k,nm,ot,op,n,fr,ks⟩=some 0):Gd ⟨k,nm,ot,op,n,fr,ks⟩:=by
  have q1:= @aBg nm
  have q2:= @aBg ot
  rcases hk2 with rfl | rfl | rfl | rfl | rfl | rfl | rfl | rfl | rfl | rfl | rfl | rfl | rfl | rfl | rfl<;>
    (unfold Fac at h
     simp only [rf1,rf2,rf3,rf4,rf5,rf6,rf7,rf8,rf9,rf10,rf11,rf12,rf13,rf14,rf15,zQ,zU,Bool.not_true,Bool.not_false,yM,yN,xY,out6,aN _ h1,aN _ h2,Int.reduceEq,Int.reduceLT,Int.reduceLE,decide_true,decide_false,Bool.or_self,uQ,aK,sF] at h
     simp only [kC] at h
     constructor<;>grind)
theorem gd_of {c : Cond} (ok : okC c) (hk : c.Kids.length ≤ 200) (h : ck1 c = 0) : Gd c := by
  have e := (aDj c (aCd ok) hk).2
  rw [h] at e
  by_cases hb : 1 ≤ c.Kind ∧ c.Kind ≤ 15
  · have o := aCd ok
    obtain ⟨k, nm, ot, op, n, fr, ks⟩ := c
    have hk2 : k = 1 ∨ k = 2 ∨ k = 3 ∨ k = 4 ∨ k = 5 ∨ k = 6 ∨ k = 7 ∨ k = 8 ∨ k = 9 ∨ k = 10 ∨ k = 11 ∨ k = 12 ∨ k = 13 ∨ k = 14 ∨ k = 15 := by have := hb.1; have := hb.2; simp only at *; omega
    exact gd_in nm ot op n fr ks k hk2 o.1 o.2 e
  · rw [(aOh c hb).2] at e
    cases e
theorem aQf {f : Cond → Int} : ∀ {l : List Cond}, fEs f l = 0 → ∀ x ∈ l, fE f x = 0
  | [], _, x, hx => by cases hx
  | a :: l, h, x, hx => by
    rw [fEs] at h
    split at h
    · rename_i q
      rcases List.mem_cons.1 hx with rfl | hx
      · exact q
      · exact aQf h x hx
    · rename_i q; exact absurd h q
structure Gt (c:Cond):Prop where
  ok:okC c
  d:dN c≤20
  n:cN c≤200
  e:fE ck1 c=0
theorem gt_of {c:Cond}(ok:okC c)(h:ckC c=0):Gt c:=by
  obtain ⟨h1,h2,h3⟩:=sH h
  exact ⟨ok,h1,h2,h3⟩
theorem Gt.self {c:Cond}(g:Gt c):Gd c:=by
  have h:=g.e
  rw [aEd] at h
  have h1:=uN c.Kids
  have h2:=tJ c
  have h3:=g.n
  split at h
  · rename_i q; exact gd_of g.ok (by omega) q
  · rename_i q; exact absurd h q
theorem Gt.kid {c x:Cond}(g:Gt c)(hx:x ∈ c.Kids):Gt x:=by
  obtain ⟨j,hj⟩:=List.getElem?_of_mem hx
  obtain ⟨k1,k2,k3⟩:=jJ g.ok hj
  have h1:=g.d
  have h2:=g.n
  refine ⟨k1,by omega,by omega,?_⟩
  have h:=g.e
  rw [aEd] at h
  split at h
  · exact aQf h x hx
  · rename_i q; exact absurd h q
theorem Gt.kids {c:Cond}(g:Gt c):c.Kids.length≤200:=by
  have h1:=uN c.Kids
  have h2:=tJ c
  have h3:=g.n
  omega
end Go.Lf
namespace Go.Lf
open Go.OB
theorem take_snoc {α:Type}{l:List α}{i:Nat}{x:α}(hx:l[i]? =some x):l.take (i+1)=l.take i++ [x]:=by
  rw [List.take_add_one,hx]; rfl
structure Gr' (r:Rules):Prop where
  p:r.Phases.length≤20
  m:r.Moves.length≤60
  l:r.Rules.length≤60
  pn: ∀x ∈ r.Phases,x.length≤30
  pd: ∀(i:Nat) x,r.Phases[i]? =some x→x ∉ r.Phases.take i
  mg: ∀x ∈ r.Moves,Gt x.When∧x.From.length≤30∧x.To.length≤30
  lg: ∀x ∈ r.Rules,Gt x.When∧x.Name.length≤30
theorem aC {α : Type} (e : Nat → α → Int) (fin : Option Int) : ∀ (l : List α) (i : Nat), dX (fun i x => if e i x = 0 then none else some (some (e i x))) fin l i = some 0 → fin = some 0 ∧ ∀ (j : Nat) x, l[j]? = some x → e (i + j) x = 0
  | [], i, h => ⟨h, fun j x hx => by simp at hx⟩
  | a :: l, i, h => by
    rw [dX] at h
    by_cases z : e i a = 0
    · rw [if_pos z] at h
      obtain ⟨h1, h2⟩ := aC e fin l (i + 1) h
      refine ⟨h1, fun j x hx => ?_⟩
      cases j with
      | zero => simp at hx; subst hx; simpa using z
      | succ j => have := h2 j x (by simpa using hx); rwa [show i + (j + 1) = i + 1 + j by omega]
    · rw [if_neg z] at h
      exact absurd (Option.some.inj h) z
theorem aFy {r : Rules} (ok : okR r) (h : chk r = some 0) : Gr' r := by
  unfold chk at h
  split at h
  · exact absurd (Option.some.inj h) (by decide)
  · rename_i q
    simp only [Bool.or_eq_true, decide_eq_true_eq, not_or] at q
    obtain ⟨h1, h2⟩ := aC (phE r.Phases) _ _ _ h
    obtain ⟨h3, h4⟩ := aC (fun _ => mvE r) _ _ _ h1
    obtain ⟨h5, h6⟩ := aC (rlE r) _ _ _ h3
    have ph : ∀ (i : Nat) x, r.Phases[i]? = some x → sZ x = true ∧ x ∉ r.Phases.take i := by
      intro i x hx
      have := h2 i x hx
      rw [Nat.zero_add] at this
      unfold phE at this
      split at this
      · rename_i a
        refine ⟨a, ?_⟩
        split at this
        · exact absurd this (by decide)
        · rename_i b
          intro hm
          exact b (List.any_eq_true.2 ⟨x, hm, by simp⟩)
      · exact absurd this (by decide)
    have pn : ∀ x ∈ r.Phases, x.length ≤ 30 := by
      intro x hx
      obtain ⟨j, hj⟩ := List.getElem?_of_mem hx
      exact aBg (ph j x hj).1
    refine ⟨by omega, by omega, by omega, pn, fun i x hx => (ph i x hx).2, ?_, ?_⟩
    · intro x hx
      obtain ⟨j, hj⟩ := List.getElem?_of_mem hx
      have := h4 j x hj
      unfold mvE at this
      split at this
      · rename_i a
        split at this
        · rename_i b
          obtain ⟨y, y1, y2⟩ := List.any_eq_true.1 a.1
          obtain ⟨z, z1, z2⟩ := List.any_eq_true.1 a.2
          refine ⟨gt_of (ok.2.1.2 x hx).2.2 b, ?_, ?_⟩
          · rw [of_decide_eq_true y2]; exact pn y y1
          · rw [of_decide_eq_true z2]; exact pn z z1
        · rename_i b; exact absurd this b
      · exact absurd this (by decide)
    · intro x hx
      obtain ⟨j, hj⟩ := List.getElem?_of_mem hx
      have := h6 j x hj
      unfold rlE at this
      split at this
      · rename_i a
        split at this
        · exact absurd this (by decide)
        · split at this
          · rename_i b; exact ⟨gt_of (ok.2.2.2 x hx).2 b, aBg a⟩
          · rename_i b; exact absurd this b
      · exact absurd this (by decide)
theorem aDu (r:Rules): ∃e,chk r=some e:=by
  have key: ∀{α:Type} (e:Nat→α→Int) (fin:Option Int) (_: ∃z,fin=some z) (l:List α) (i:Nat),∃z,dX (fun i x=>if e i x=0 then none else some (some (e i x))) fin l i=some z:=by
    intro α e fin hf l
    induction l with
    | nil=>intro i; exact hf
    | cons a l ih=>
      intro i
      rw [dX]
      by_cases z:e i a=0
      · rw [if_pos z]; exact ih (i+1)
      · rw [if_neg z]; exact ⟨_,rfl⟩
  unfold chk
  split
  · exact ⟨_,rfl⟩
  · exact key (phE r.Phases) _ (key (fun _=>mvE r) _ (key (rlE r) _ ⟨0,rfl⟩ _ _) _ _) _ _
end Go.Lf
namespace Go.Lf
open Go.OB
def Gr (r:Option bC)(n:Nat):Prop:= ∃q,r=some q∧q.out.length≤n
theorem Gr.bind {a:Option bC}{k:bC→Option bC}{n m:Nat}(h:Gr a n)(hk: ∀q,q.out.length≤n→Gr (k q) m):Gr (gG a k) m:=by
  obtain ⟨q,h1,h2⟩:=h
  rw [h1,zQ]; exact hk q h2
theorem Gr.get {r:Option bC}{n:Nat}(h:Gr r n): ∃q,r=Option.some q∧q.out.length≤n:=h
theorem Gr.some {q:bC}{n:Nat}(h:q.out.length≤n):Gr (Option.some q) n:=⟨q,rfl,h⟩
set_option maxRecDepth 1000000 in
theorem vV:Fbl=some true:=by kernel_rfl
end Go.Lf
