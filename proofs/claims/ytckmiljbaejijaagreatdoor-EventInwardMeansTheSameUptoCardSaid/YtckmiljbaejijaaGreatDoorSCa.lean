/- Walks: what each function computes, for every argument; no condition but those that stand in the statements. -/
import Derived.Test.YtckmiljbaejijaaGreatDoorSOk
import Derived.Test.YtckmiljbaejijaaGreatDoorPl
import Derived.Test.YtckmiljbaejijaaGreatDoorPl2
namespace Go.Lf
def kws:List Str:=[[112,104,97,115,101],[109,111,118,101],[114,117,108,101],[105,102],[111,114],[97,110,100],[116,114,117,101],[102,97,108,115,101],[115,116,101,97,100,121],[110,111,116],[102,111,114],[119,105,116,104,105,110],[99,111,117,110,116],[111,102],[114,105,115,101,115],[115,105,110,99,101]]
theorem aJh (a b c:Int):Faf a b c=some (decide (b≤a) && decide (a≤c)):=by
  unfold Faf; simp only [yB,kM,zU]
theorem out6 (a b c:Int):Fa3 a b c=some (decide (a<b) || decide (c<a)):=by
  unfold Fa3; simp only [yB,aN,zU]
def isW (s:Str):Bool:=decide (s ∈ kws)
theorem isWord_eq (s:Str):Fbe s=some (isW s):=by
  unfold Fbe isW kws
  simp only [yB,nP,zU,aSo,List.mem_cons,List.not_mem_nil,or_false,Bool.decide_or]
def nmB (c:Int):Bool:=(decide (97≤c) && decide (c≤122)) || (decide (48≤c) && decide (c≤57)) || decide (c=45)
theorem aNa (c:Int):Fbk c=some (nmB c):=by
  unfold Fbk nmB
  simp only [yB]
  cases decide (97≤c)<;>cases decide (c≤122)<;>cases decide (48≤c)<;>cases decide (c≤57)<;>cases decide (c=45)<;>rfl
def aGq:Nat→UInt8→Bool:=fun _ c=> !nmB (c.toNat:Int)
theorem isName_L1 (s : Str) (hs : okS s) (k : Unit → Option Bool) : Fdg s k (s.length : Int) 0 = if jH aGq s 0 = true then some false else k () := by
  unfold Fdg
  rw [wK s (fun i c => if aGq i c = true then some (some false) else none) (k ()) hs]
  · exact vG aGq (some false) (k ()) s 0
  · intro kk i c hc hi
    unfold aGq
    simp only [yB]
    rw [wF hi, yU, aGa hc, zU, aNa, zU]
    cases nmB (c.toNat : Int)
    · rfl
    · simp only [Bool.not_true, yX]; rw [dE hi hs]; rfl
  · intro kk; simp only [yB]; rw [wE]; rfl
def aBb (s:Str):Bool:=match s with
  | []=>false
  | c :: _=>decide (97≤(c.toNat:Int)) && decide ((c.toNat:Int)≤122)
def uG (s:Str):Bool:=decide (s.length≤30) && aBb s && !isW s && !jH aGq s 0
theorem rH (s:Str)(hs:okS s):Fag s=some (uG s):=by
  unfold Fag uG
  simp only [yB,zU,aJh,wG,isName_L1 s hs,isWord_eq]
  cases s with
  | nil=>rfl
  | cons c l=>
    have h0:byte' (c :: l) 0=some (c.toNat:Int):=aGa (i:=0) rfl
    have h1:decide ((1:Int)≤((c :: l).length:Int))=true:=decide_eq_true (by simp; omega)
    have h2:decide (((c :: l).length:Int)≤30)=decide ((c :: l).length≤30):=decide_eq_decide.2 (by omega)
    have h3:decide ((c.toNat:Int)<97)= !decide (97≤(c.toNat:Int)):=by rw [← decide_not]; exact decide_eq_decide.2 (by omega)
    have h4:decide (122<(c.toNat:Int))= !decide ((c.toNat:Int)≤122):=by rw [← decide_not]; exact decide_eq_decide.2 (by omega)
    rw [h0,h1,h2]
    simp only [zU,Bool.true_and,h3,h4,aBb]
    cases decide ((c :: l).length≤30)<;>cases decide (97≤(c.toNat:Int))<;>cases decide ((c.toNat:Int)≤122)<;>cases isW (c :: l)<;>cases jH aGq (c :: l) 0<;>rfl
end Go.Lf
namespace Go.Lf
theorem aMi (s : Str) : Feg s = some (isW s) := by
  unfold Feg Fgf
  simp only [yB, zU, wG]
  change Fee s kws (fun _ => some false) 0 = _
  unfold Fee
  rw [wK kws (fun _ x => if decide (x = s) = true then some (some true) else none) (some false) (by decide)]
  · rw [vG (fun _ x => decide (x = s))]
    have e : jH (fun _ x => decide (x = s)) kws 0 = isW s := by
      rw [Bool.eq_iff_iff, aEz]
      unfold isW
      simp only [decide_eq_true_eq]
      constructor
      · rintro ⟨j, x, h, rfl⟩; exact List.mem_of_getElem? h
      · intro h; obtain ⟨j, hj⟩ := List.getElem?_of_mem h; exact ⟨j, s, hj, rfl⟩
    rw [e]; cases isW s <;> rfl
  · intro kk i c hc hi
    simp only [yB]
    rw [wF hi, yU, dP hc, zU]
    cases decide (c = s)
    · simp only [yX]; rw [dE hi (by decide)]; rfl
    · rfl
  · intro kk; simp only [yB]; rw [wE]; rfl
def badR:Nat→UInt8→Bool:=fun i c=> !((decide (97≤(c.toNat:Int)) && decide ((c.toNat:Int)≤122)) || (decide (0<(i:Int)) && ((decide (48≤(c.toNat:Int)) && decide ((c.toNat:Int)≤57)) || decide ((c.toNat:Int)=45))))
theorem aOv (s : Str) (hs : okS s) (k : Unit → Option Bool) : Ffs s k 0 = if jH badR s 0 = true then some false else k () := by
  unfold Ffs
  rw [wK s (fun i c => if badR i c = true then some (some false) else none) (k ()) hs]
  · exact vG badR (some false) (k ()) s 0
  · intro kk i c hc hi
    unfold badR
    simp only [yB]
    rw [wF hi, yU, aGa hc, zU]
    rw [dE hi hs]
    cases decide (97 ≤ (c.toNat : Int)) <;> cases decide ((c.toNat : Int) ≤ 122) <;> cases decide (0 < (i : Int)) <;> cases decide (48 ≤ (c.toNat : Int)) <;> cases decide ((c.toNat : Int) ≤ 57) <;> cases decide ((c.toNat : Int) = 45) <;> rfl
  · intro kk; simp only [yB]; rw [wE]; rfl
theorem dS (s:Str)(hs:okS s):Fdq s=some (uG s):=by
  unfold Fdq uG
  simp only [yB,zU,wG,aOv s hs,aMi]
  cases s with
  | nil=>rfl
  | cons c l=>
    have h2:decide (((c :: l).length:Int)≤30)=decide ((c :: l).length≤30):=decide_eq_decide.2 (by omega)
    have h5:decide ((c :: l)≠ [])=true:=by simp
    have e:jH badR l (0+1)=jH aGq l (0+1):=aFq l (0+1) fun j x _=>by
      have:decide (0<((0+1+j:Nat):Int))=true:=decide_eq_true (by omega)
      unfold badR aGq nmB
      rw [this]
      simp only [Bool.true_and,Bool.or_assoc]
    rw [jH,jH,e,h2,h5]
    have e2:badR 0 c= !(decide (97≤(c.toNat:Int)) && decide ((c.toNat:Int)≤122)):=by unfold badR; simp
    have e3:aGq 0 c= !(aBb (c :: l) || (decide (48≤(c.toNat:Int)) && decide ((c.toNat:Int)≤57)) || decide ((c.toNat:Int)=45)):=rfl
    have e4:badR 0 c= !aBb (c :: l):=e2
    rw [e3,e4]
    cases aBb (c :: l)<;>cases jH aGq l (0+1)<;>cases decide ((c :: l).length≤30)<;>cases isW (c :: l)<;>simp [gQ,gG]
theorem aRe (a b c:Int):(decide (a<b) || decide (c<a))= !(decide (b≤a) && decide (a≤c)):=by
  by_cases h1:b≤a<;>by_cases h2:a≤c<;>simp [h1,h2]<;>omega
end Go.Lf
namespace Go.Lf
open Go.OB
def okN (c:Cond):Prop:=okS c.Name∧okS c.Other
theorem len_k (n : Nat) (k : Int) : (!(decide (k ≤ (n : Int)) && decide ((n : Int) ≤ k))) = decide ((n : Int) ≠ k) := by
  by_cases h : (n : Int) = k
  · simp [h]
  · by_cases h1 : k ≤ (n : Int)
    · by_cases h2 : (n : Int) ≤ k
      · omega
      · simp [h, h1, h2]
    · simp [h, h1]
theorem len_2 {n:Nat}(hn:n≤200):(!(decide (2≤(n:Int)) && decide ((n:Int)≤200)))=decide ((n:Int)<2):=by
  rw [Bool.eq_iff_iff]
  simp only [Bool.not_eq_true',Bool.and_eq_false_iff,decide_eq_false_iff_not,decide_eq_true_eq]
  omega
section
variable (nm ot:Str) (op n fr:Int) (ks:List Cond)
theorem fo1:Fab 1=some (⟨false,false,false,false,false,0,0⟩,true):=rfl
theorem rf1:Fac 1=some (false,false,false,false,false,0):=rfl
theorem fo2:Fab 2=some (⟨false,false,false,false,false,0,0⟩,true):=rfl
theorem rf2:Fac 2=some (false,false,false,false,false,0):=rfl
theorem fo3:Fab 3=some (⟨true,false,true,true,false,0,0⟩,true):=rfl
theorem rf3:Fac 3=some (true,false,true,true,false,0):=rfl
theorem fo4:Fab 4=some (⟨true,true,true,false,false,0,0⟩,true):=rfl
theorem rf4:Fac 4=some (true,true,true,false,false,0):=rfl
theorem fo5:Fab 5=some (⟨true,false,false,true,true,0,0⟩,true):=rfl
theorem rf5:Fac 5=some (true,false,false,true,true,0):=rfl
theorem fo6:Fab 6=some (⟨true,false,false,false,false,0,0⟩,true):=rfl
theorem rf6:Fac 6=some (true,false,false,false,false,0):=rfl
theorem fo7:Fab 7=some (⟨true,false,false,false,false,0,0⟩,true):=rfl
theorem rf7:Fac 7=some (true,false,false,false,false,0):=rfl
theorem fo8:Fab 8=some (⟨false,false,false,false,false,1,1⟩,true):=rfl
theorem rf8:Fac 8=some (false,false,false,false,false,1):=rfl
theorem fo9:Fab 9=some (⟨false,false,false,false,false,2,200⟩,true):=rfl
theorem rf9:Fac 9=some (false,false,false,false,false,(-1)):=rfl
theorem fo10:Fab 10=some (⟨false,false,false,false,false,2,200⟩,true):=rfl
theorem aPz:Fac 10=some (false,false,false,false,false,(-1)):=rfl
theorem fo11:Fab 11=some (⟨false,false,false,false,true,1,1⟩,true):=rfl
theorem aNw:Fac 11=some (false,false,false,false,true,1):=rfl
theorem fo12:Fab 12=some (⟨false,false,false,false,true,1,1⟩,true):=rfl
theorem aPc:Fac 12=some (false,false,false,false,true,1):=rfl
theorem fo13:Fab 13=some (⟨false,false,false,true,true,1,1⟩,true):=rfl
theorem aPf:Fac 13=some (false,false,false,true,true,1):=rfl
theorem fo14:Fab 14=some (⟨false,false,false,false,false,2,2⟩,true):=rfl
theorem rf14:Fac 14=some (false,false,false,false,false,2):=rfl
theorem fo15:Fab 15=some (⟨false,false,false,false,false,1,1⟩,true):=rfl
theorem rf15:Fac 15=some (false,false,false,false,false,1):=rfl
set_option maxHeartbeats 20000000 in
theorem chk_in (k:Int)(hk2:k=1∨k=2∨k=3∨k=4∨k=5∨k=6∨k=7∨k=8∨k=9∨k=10∨k=11∨k=12∨k=13∨k=14∨k=15)(h1:okS nm)(h2:okS ot)(hk:ks.length≤200):Fan ⟨k,nm,ot,op,n,fr,ks⟩=Faa ⟨k,nm,ot,op,n,fr,ks⟩∧ ∃r,Faa ⟨k,nm,ot,op,n,fr,ks⟩=some r:=by
  have hb:(decide (1≤fr) && decide (fr≤4096))=true→(decide (1≤n) && decide (n≤fr))=true→(decide (-1125899906842624≤n) && decide (n≤1125899906842624))=true:=by
    simp only [Bool.and_eq_true,decide_eq_true_eq]; omega
  rcases hk2 with rfl | rfl | rfl | rfl | rfl | rfl | rfl | rfl | rfl | rfl | rfl | rfl | rfl | rfl | rfl<;>
    (unfold Fan Faa
     simp only [fo1,fo2,fo3,fo4,fo5,fo6,fo7,fo8,fo9,fo10,fo11,fo12,fo13,fo14,fo15,rf1,rf2,rf3,rf4,rf5,rf6,rf7,rf8,rf9,aPz,aNw,aPc,aPf,rf14,rf15,zU,yB,Bool.not_true,Bool.not_false,yU,yX,wG,out6,aJh,rH _ h1,dS _ h1,rH _ h2,dS _ h2,Int.reduceEq,Int.reduceLT,Int.reduceLE,decide_true,decide_false,Bool.or_self,nP,aN,kM]
     simp only [aRe,len_k,len_2 hk]
     generalize (decide (1≤op) && decide (op≤6))=b1
     generalize (decide (1≤fr) && decide (fr≤4096))=b2 at hb ⊢
     generalize (decide (1≤n) && decide (n≤fr))=b3 at hb ⊢
     generalize (decide (-1125899906842624≤n) && decide (n≤1125899906842624))=b4 at hb ⊢
     simp only [kD]
     grind)
end
theorem aPo (c : Cond) (h : ¬ (1 ≤ c.Kind ∧ c.Kind ≤ 15)) : Fan c = some 7 ∧ Faa c = some 7 := by
  have e : ∀ k : Int, 1 ≤ k → k ≤ 15 → decide (c.Kind = k) = false := fun k h1 h2 => decide_eq_false (by omega)
  constructor
  · unfold Fan Fab
    simp only [yB, e 1 (by decide) (by decide), e 2 (by decide) (by decide), e 3 (by decide) (by decide), e 4 (by decide) (by decide), e 5 (by decide) (by decide), e 6 (by decide) (by decide), e 7 (by decide) (by decide), e 8 (by decide) (by decide), e 9 (by decide) (by decide), e 10 (by decide) (by decide), e 11 (by decide) (by decide), e 12 (by decide) (by decide), e 13 (by decide) (by decide), e 14 (by decide) (by decide), e 15 (by decide) (by decide), yX, zU, Bool.not_false, yU]
  · unfold Faa
    rw [out6, zU, aRe]
    have q : (decide (1 ≤ c.Kind) && decide (c.Kind ≤ 15)) = false := by
      rw [Bool.and_eq_false_iff, decide_eq_false_iff_not, decide_eq_false_iff_not]; omega
    rw [q]; rfl
def ck1 (c:Cond):Int:=(Faa c).getD 0
theorem aCw (c : Cond) (h : okN c) (hk : c.Kids.length ≤ 200) : Fan c = some (ck1 c) ∧ Faa c = some (ck1 c) := by
  have key : Fan c = Faa c ∧ ∃ r, Faa c = some r := by
    by_cases hb : 1 ≤ c.Kind ∧ c.Kind ≤ 15
    · obtain ⟨k, nm, ot, op, n, fr, ks⟩ := c
      have hk2 : k = 1 ∨ k = 2 ∨ k = 3 ∨ k = 4 ∨ k = 5 ∨ k = 6 ∨ k = 7 ∨ k = 8 ∨ k = 9 ∨ k = 10 ∨ k = 11 ∨ k = 12 ∨ k = 13 ∨ k = 14 ∨ k = 15 := by have := hb.1; have := hb.2; simp only at *; omega
      exact chk_in nm ot op n fr ks k hk2 h.1 h.2 hk
    · obtain ⟨h1, h2⟩ := aPo c hb
      exact ⟨h1.trans h2.symm, _, h2⟩
  obtain ⟨h1, r, h2⟩ := key
  have e : ck1 c = r := by unfold ck1; rw [h2]; rfl
  rw [e, h1]
  exact ⟨h2, h2⟩
end Go.Lf
namespace Go.Lf
open Go.OB
mutual
def cN:Cond→Nat
  | ⟨_,_,_,_,_,_,ks⟩=>1+cNs ks
def cNs:List Cond→Nat
  | []=>0
  | c :: l=>cN c+cNs l
end
mutual
def dN:Cond→Nat
  | ⟨_,_,_,_,_,_,ks⟩=>1+dNs ks
def dNs:List Cond→Nat
  | []=>0
  | c :: l=>max (dN c) (dNs l)
end
mutual
def okC:Cond→Prop
  | ⟨k,nm,ot,op,n,fr,ks⟩=>(i64 k∧okS nm∧okS ot∧i64 op∧i64 n∧i64 fr)∧ks.length≤9223372036854775807∧okCs ks
def okCs:List Cond→Prop
  | []=>True
  | c :: l=>okC c∧okCs l
end
mutual
def fE (f:Cond→Int):Cond→Int
  | ⟨k,nm,ot,op,n,fr,ks⟩=>if f ⟨k,nm,ot,op,n,fr,ks⟩=0 then fEs f ks else f ⟨k,nm,ot,op,n,fr,ks⟩
def fEs (f:Cond→Int):List Cond→Int
  | []=>0
  | c :: l=>if fE f c=0 then fEs f l else fE f c
end
theorem aAa (c:Cond):cN c=1+cNs c.Kids:=by cases c; rfl
theorem dN_eq (c:Cond):dN c=1+dNs c.Kids:=by cases c; rfl
theorem aCj (f:Cond→Int)(c:Cond):fE f c=if f c=0 then fEs f c.Kids else f c:=by cases c; rfl
theorem nH (c:Cond):okC c↔(i64 c.Kind∧okS c.Name∧okS c.Other∧i64 c.Op∧i64 c.N∧i64 c.Frames)∧c.Kids.length≤9223372036854775807∧okCs c.Kids:=by cases c; rfl
theorem rM: ∀(l:List Cond),okCs l↔ ∀c ∈ l,okC c
  | []=>by simp [okCs]
  | c :: l=>by rw [okCs,rM l]; simp
theorem cN_pos (c:Cond):1≤cN c:=by rw [aAa]; omega
theorem pO (c:Cond):1≤dN c:=by rw [dN_eq]; omega
theorem wY: ∀l:List Cond,l.length≤cNs l
  | []=>Nat.le_refl _
  | c :: l=>by have:=wY l; have:=cN_pos c; rw [cNs,List.length_cons]; omega
theorem aSd {c:Cond}: ∀{l:List Cond},c ∈ l→cN c≤cNs l
  | a :: l,h=>by
    rw [cNs]
    rcases List.mem_cons.1 h with rfl | h
    · omega
    · have:=aSd h; omega
theorem aRo {c:Cond}: ∀{l:List Cond},c ∈ l→dN c≤dNs l
  | a :: l,h=>by
    rw [dNs]
    rcases List.mem_cons.1 h with rfl | h
    · omega
    · have:=aRo h; omega
def stS (rf:Cond→Int→Int→Option (Bool×Int))(l:Int):Nat→Cond→Int→Int ⊕ Option (Bool×Int):=fun _ x s=>match rf x l s with
  | none=> .inr none
  | some (true,s')=> .inl s'
  | some (false,s')=> .inr (some (false,s'))
theorem aEo (rf : Cond → Int → Int → Option (Bool × Int)) (l : Nat) :
    ∀ (ks : List Cond) (_ : ∀ c ∈ ks, ∀ k : Nat, k ≤ 200 → ∃ k' : Nat, rf c (l : Int) (k : Int) = some (decide (dN c ≤ l ∧ k + cN c ≤ 200), (k' : Int)) ∧ (dN c ≤ l ∧ k + cN c ≤ 200 → k' = k + cN c)) (i k : Nat), k ≤ 200 → ∃ k' : Nat, vV (stS rf l) (fun s => some (true, s)) ks i (k : Int) = some (decide (dNs ks ≤ l ∧ k + cNs ks ≤ 200), (k' : Int)) ∧ (dNs ks ≤ l ∧ k + cNs ks ≤ 200 → k' = k + cNs ks)
  | [], _, i, k, hk => ⟨k, by simp [vV, dNs, cNs, hk], fun _ => by simp [cNs]⟩
  | c :: ks, hr, i, k, hk => by
    obtain ⟨k1, h1, h2⟩ := hr c List.mem_cons_self k hk
    rw [vV]
    simp only [stS, h1]
    by_cases hc : dN c ≤ l ∧ k + cN c ≤ 200
    · obtain rfl := h2 hc
      obtain ⟨k2, h3, h4⟩ := aEo rf l ks (fun c hc => hr c (List.mem_cons_of_mem _ hc)) (i + 1) (k + cN c) hc.2
      rw [decide_eq_true hc]
      refine ⟨k2, ?_, ?_⟩
      · simp only []
        rw [h3]
        congr 2
        rw [decide_eq_decide, dNs, cNs]
        have := hc.1
        omega
      · rw [dNs, cNs]; intro h; rw [h4 (by omega)]; omega
    · rw [decide_eq_false hc]
      refine ⟨k1, ?_, ?_⟩
      · simp only []
        congr 2
        refine (decide_eq_false ?_).symm
        rw [dNs, cNs]; omega
      · rw [dNs, cNs]; intro h; exfalso; omega
theorem aTa : ∀ (n : Nat) (c : Cond) (l k : Nat), l < n → k ≤ 200 → l ≤ 1000 → okC c → ∃ k' : Nat, Faj n c (l : Int) (k : Int) = some (decide (dN c ≤ l ∧ k + cN c ≤ 200), (k' : Int)) ∧ (dN c ≤ l ∧ k + cN c ≤ 200 → k' = k + cN c)
  | 0, _, _, _, h, _, _, _ => by omega
  | n + 1, c, l, k, h, hk, hl, ok => by
    have hlen := ((nH c).1 ok).2.1
    have oks := (rM _).1 ((nH c).1 ok).2.2
    have ew : IntKind.i64.wrap ((k : Int) + 1) = ((k + 1 : Nat) : Int) := dE (n := 1000) (by omega) (by omega)
    show ∃ k' : Nat, Fca (Faj n) c (l : Int) (k : Int) = _ ∧ _
    unfold Fca
    simp only [yB, wG, aN, zU, ew]
    have hd := dN_eq c
    have hc := aAa c
    by_cases h0 : l = 0
    · subst h0
      refine ⟨k + 1, ?_, fun q => by exfalso; omega⟩
      rw [decide_eq_true (show ((0 : Nat) : Int) = 0 from rfl), Bool.true_or, yU, decide_eq_false (by omega)]
    · by_cases h2 : 200 < k + 1
      · refine ⟨k + 1, ?_, fun q => by exfalso; omega⟩
        rw [decide_eq_true (show (200 : Int) < ((k + 1 : Nat) : Int) by omega), Bool.or_true, yU, decide_eq_false (by omega)]
      · rw [decide_eq_false (show ¬ (l : Int) = 0 by omega), decide_eq_false (show ¬ (200 : Int) < ((k + 1 : Nat) : Int) by omega), Bool.or_self, yX]
        obtain ⟨m, rfl⟩ : ∃ m, l = m + 1 := ⟨l - 1, by omega⟩
        have el : IntKind.i64.wrap (((m + 1 : Nat) : Int) - 1) = (m : Int) := by rw [wrap_i64 (by omega) (by omega)]; omega
        obtain ⟨k', h3, h4⟩ := aEo (Faj n) m c.Kids (fun x hx k hk => aTa n x m k (by omega) hk (by omega) (oks x hx)) 0 (k + 1) (by omega)
        refine ⟨k', ?_, ?_⟩
        · unfold Ffp
          simp only [yB, el]
          refine (qH (fun (i : Nat) (s : Int) => ((i : Int), s)) c.Kids (stS (Faj n) m) (fun s => some (true, s)) hlen ?_ ?_ ((k + 1 : Nat) : Int)).trans (h3.trans ?_)
          rotate_left 2
          · congr 2
            rw [decide_eq_decide]; omega
          · intro kk i s x hx
            have hi := (List.getElem?_eq_some_iff.1 hx).1
            simp only [stS]
            rw [wF hi, yU, dP hx, zU, dE hi hlen]
            cases Faj n x m s with
            | none => rfl
            | some r => obtain ⟨b, s'⟩ := r; cases b <;> rfl
          · intro kk s
            simp only []
            rw [wE, yX]
        · intro q; rw [h4 (by omega)]; omega
theorem aCk {n:Nat}(h:n≤1000000):n<FU:=aBr (by omega)
theorem small_eq (c:Cond)(ok:okC c): ∃k':Int,Fde c 20 0=some (decide (dN c≤20∧cN c≤200),k'):=by
  obtain ⟨k',h1,_⟩:=aTa FU c 20 0 (aCk (by decide)) (by decide) (by decide) ok
  refine ⟨k',?_⟩
  unfold Fde
  refine h1.trans ?_
  rw [Nat.zero_add]
end Go.Lf
namespace Go.Lf
open Go.OB
theorem tX {c:Cond}(ok:okC c):okN c:=⟨((nH c).1 ok).1.2.1,((nH c).1 ok).1.2.2.1⟩
theorem aAb (f:Cond→Int): ∀(l:List Cond) (i:Nat),bD (fun _ x=>if fE f x=0 then none else some (some (fE f x))) (some 0) l i=some (fEs f l)
  | [],_=>rfl
  | c :: l,i=>by
    rw [bD,fEs]
    by_cases h:fE f c=0
    · rw [if_pos h,if_pos h]; exact aAb f l (i+1)
    · rw [if_neg h,if_neg h]
theorem jQ {c x:Cond}{i:Nat}(ok:okC c)(hx:c.Kids[i]? =some x):okC x∧dN x<dN c∧cN x<cN c:=by
  have hm:=List.mem_of_getElem? hx
  have h1:=aRo hm
  have h2:=aSd hm
  exact ⟨(rM _).1 ((nH c).1 ok).2.2 x hm,by rw [dN_eq c]; omega,by rw [aAa c]; omega⟩
theorem aRr : ∀ (n : Nat) (c : Cond), dN c ≤ n → okC c → cN c ≤ 200 → Fbn n c = some (fE ck1 c)
  | 0, c, h, _, _ => by have := pO c; omega
  | n + 1, c, h, ok, hc => by
    have hlen := ((nH c).1 ok).2.1
    have hl2 := wY c.Kids
    have hcc := aAa c
    show Fct (Fbn n) c = _
    unfold Fct
    rw [(aCw c (tX ok) (by omega)).1, zU, aCj]
    simp only [yB, wG]
    by_cases e : ck1 c = 0
    · rw [if_pos e, decide_eq_false (by simpa using e), yX]
      unfold Ffi
      rw [wK c.Kids (fun _ x => if fE ck1 x = 0 then none else some (some (fE ck1 x))) (some 0) hlen ?_ ?_, aAb]
      · intro k i x hx hi
        obtain ⟨k1, k2, k3⟩ := jQ ok hx
        simp only [yB]
        rw [wF hi, yU, dP hx, zU, aRr n x (by omega) k1 (by omega), zU, dE hi hlen]
        by_cases z : fE ck1 x = 0
        · rw [if_pos z, decide_eq_false (by simpa using z), yX]
        · rw [if_neg z, decide_eq_true z, yU]
      · intro k
        simp only [yB]
        rw [wE, yX]
    · rw [if_neg e, decide_eq_true e, yU]
def ckC (c:Cond):Int:=if dN c≤20∧cN c≤200 then fE ck1 c else 3
theorem nM (c : Cond) (ok : okC c) : Fas c = some (ckC c) := by
  unfold Fas ckC
  obtain ⟨k', h⟩ := small_eq c ok
  rw [h, zU]
  simp only [yB]
  by_cases q : dN c ≤ 20 ∧ cN c ≤ 200
  · rw [if_pos q, decide_eq_true q, Bool.not_true, yX]
    unfold Ffx
    rw [aRr FU c (Nat.le_of_lt (aCk (by omega))) ok q.2]; rfl
  · rw [if_neg q, decide_eq_false q, Bool.not_false, yU]
theorem aEg {c:Cond}(h:ckC c=0):dN c≤20∧cN c≤200∧fE ck1 c=0:=by
  unfold ckC at h
  split at h
  · rename_i q; exact ⟨q.1,q.2,h⟩
  · exact absurd h (by decide)
end Go.Lf
namespace Go.Lf
open Go.OB
section
variable {α:Type}
theorem aIp (p : α → Bool) : ∀ (l : List α) (i : Nat), ∃ n : Int, bD (fun (i : Nat) x => if p x = true then some (some (i : Int)) else none) (some (-1)) l i = some n ∧
    ((n = -1 ∧ ∀ (j : Nat) x, l[j]? = some x → p x = false) ∨ ∃ j : Nat, n = ((i + j : Nat) : Int) ∧ (∃ x, l[j]? = some x ∧ p x = true) ∧ ∀ (m : Nat) y, m < j → l[m]? = some y → p y = false)
  | [], i => ⟨-1, rfl, .inl ⟨rfl, fun j x h => by simp at h⟩⟩
  | a :: l, i => by
    rw [bD]
    by_cases h : p a = true
    · rw [if_pos h]
      exact ⟨_, rfl, .inr ⟨0, by simp, ⟨a, rfl, h⟩, fun m y hm => by omega⟩⟩
    · rw [if_neg h]
      have hf : p a = false := by simpa using h
      obtain ⟨n, h1, h2⟩ := aIp p l (i + 1)
      refine ⟨n, h1, ?_⟩
      rcases h2 with ⟨h2, h3⟩ | ⟨j, h2, h3, h4⟩
      · refine .inl ⟨h2, fun j x hx => ?_⟩
        cases j with
        | zero => simp at hx; subst hx; exact hf
        | succ j => exact h3 j x (by simpa using hx)
      · refine .inr ⟨j + 1, by rw [h2]; congr 1; omega, ?_, fun m y hm hy => ?_⟩
        · obtain ⟨x, q1, q2⟩ := h3; exact ⟨x, by simpa using q1, q2⟩
        · cases m with
          | zero => simp at hy; subst hy; exact hf
          | succ m => exact h4 m y (by omega) (by simpa using hy)
theorem any_iff (p:α→Bool)(l:List α):l.any p=true↔ ∃(j:Nat) (x:α),l[j]? =some x∧p x=true:=by
  rw [List.any_eq_true]
  constructor
  · rintro ⟨x,h,hp⟩; obtain ⟨j,hj⟩:=List.getElem?_of_mem h; exact ⟨j,x,hj,hp⟩
  · rintro ⟨j,x,h,hp⟩; exact ⟨x,List.mem_of_getElem? h,hp⟩
theorem ix_any {p : α → Bool} {l : List α} {n : Int} (h : (n = -1 ∧ ∀ (j : Nat) x, l[j]? = some x → p x = false) ∨ ∃ j : Nat, n = ((0 + j : Nat) : Int) ∧ (∃ x, l[j]? = some x ∧ p x = true) ∧ ∀ (m : Nat) y, m < j → l[m]? = some y → p y = false) : decide (0 ≤ n) = l.any p := by
  rw [Bool.eq_iff_iff, decide_eq_true_eq, any_iff]
  rcases h with ⟨rfl, h⟩ | ⟨j, rfl, ⟨x, h1, h2⟩, _⟩
  · constructor
    · intro h; omega
    · rintro ⟨j, x, h1, h2⟩; rw [h j x h1] at h2; cases h2
  · exact ⟨fun _ => ⟨j, x, h1, h2⟩, fun _ => by omega⟩
theorem aNn (l:List α)(i:Nat)(hi:i≤l.length):sub' l 0 (i:Int)=some (l.take i):=by
  unfold sub'
  rw [if_pos ⟨by omega,by omega,by omega⟩]
  simp
end
theorem aGi (l : List Str) (c : Str) (hl : l.length ≤ 9223372036854775807) : Fap l c = some (l.any fun y => decide (c = y)) := by
  unfold Fap Fae
  simp only [yB, wG]
  unfold Fc3
  obtain ⟨n, h1, h2⟩ := aIp (fun y => decide (c = y)) l 0
  rw [wK l (fun i x => if decide (c = x) = true then some (some (i : Int)) else none) (some (-1)) hl ?_ ?_, h1, zU, ix_any h2]
  · intro k i x hx hi
    simp only [yB]
    rw [wF hi, yU, dP hx, zU, dE hi hl]
    cases decide (c = x) <;> rfl
  · intro k
    simp only [yB]
    rw [wE, yX]
def nmd (l:List dH)(s:Str):Bool:=l.any fun y=>decide (y.Name=s)
theorem aMm (s : Str) (r : Rules) (i : Nat) (hi : i ≤ r.Rules.length) (hl : r.Rules.length ≤ 9223372036854775807) : Fba s r (i : Int) = some (nmd (r.Rules.take i) s) := by
  unfold Fba
  rw [aNn _ _ hi, zU]
  unfold Fdb Fdx
  simp only [yB, wG]
  unfold Ffn
  have hl2 : (r.Rules.take i).length ≤ 9223372036854775807 := by rw [List.length_take]; omega
  generalize r.Rules.take i = l at *
  obtain ⟨n, h1, h2⟩ := aIp (fun y : dH => decide (y.Name = s)) l 0
  rw [wK l (fun i x => if decide (x.Name = s) = true then some (some (i : Int)) else none) (some (-1)) hl2 ?_ ?_, h1, zU, ix_any h2]
  · rfl
  · intro k i x hx hi
    simp only [yB, Fdl]
    rw [wF hi, yU, dP hx, zU, zU, dE hi hl2]
    cases decide (x.Name = s) <;> rfl
  · intro k
    simp only [yB]
    rw [wE, yX]
end Go.Lf
namespace Go.Lf
open Go.OB
def mv1 (c:Cond):Int:=if c.Kind=6∨c.Kind=7 then 2 else 0
theorem mv1_eq (c : Cond) : Fcz c = some (mv1 c) := by
  unfold Fcz mv1
  simp only [yB, aN, zU]
  by_cases h : c.Kind = 6 ∨ c.Kind = 7
  · have e : (decide (c.Kind = 6) || decide (c.Kind = 7)) = true := by rw [Bool.or_eq_true, decide_eq_true_eq, decide_eq_true_eq]; exact h
    rw [if_pos h, e, yU]
  · have e : (decide (c.Kind = 6) || decide (c.Kind = 7)) = false := by rw [Bool.or_eq_false_iff, decide_eq_false_iff_not, decide_eq_false_iff_not]; exact not_or.1 h
    rw [if_neg h, e, yX]
theorem aRp : ∀ (n : Nat) (c : Cond), dN c ≤ n → okC c → Fa9 n c = some (fE mv1 c)
  | 0, c, h, _ => by have := pO c; omega
  | n + 1, c, h, ok => by
    have hlen := ((nH c).1 ok).2.1
    show Fcb (Fa9 n) c = _
    unfold Fcb
    rw [mv1_eq, zU, aCj]
    simp only [yB, wG]
    by_cases e : mv1 c = 0
    · rw [if_pos e, decide_eq_false (by simpa using e), yX]
      unfold Ffw
      rw [wK c.Kids (fun _ x => if fE mv1 x = 0 then none else some (some (fE mv1 x))) (some 0) hlen ?_ ?_, aAb]
      · intro k i x hx hi
        obtain ⟨k1, k2, k3⟩ := jQ ok hx
        simp only [yB]
        rw [wF hi, yU, dP hx, zU, aRp n x (by omega) k1, zU, dE hi hlen]
        by_cases z : fE mv1 x = 0
        · rw [if_pos z, decide_eq_false (by simpa using z), yX]
        · rw [if_neg z, decide_eq_true z, yU]
      · intro k
        simp only [yB]
        rw [wE, yX]
    · rw [if_neg e, decide_eq_true e, yU]
mutual
def nS (p:Cond→Bool):Cond→Bool
  | ⟨k,nm,ot,op,n,fr,ks⟩=>p ⟨k,nm,ot,op,n,fr,ks⟩ || tC p ks
def tC (p:Cond→Bool):List Cond→Bool
  | []=>false
  | c :: l=>nS p c || tC p l
end
theorem aKd (p:Cond→Bool)(c:Cond):nS p c=(p c || tC p c.Kids):=by cases c; rfl
mutual
theorem aOn (f:Cond→Int)(p:Cond→Bool)(e:Int)(h0:e≠0)(h: ∀c,f c=if p c=true then e else 0): ∀c,fE f c=if nS p c=true then e else 0
  | ⟨k,nm,ot,op,n,fr,ks⟩=>by
    rw [fE,nS,h]
    cases p ⟨k,nm,ot,op,n,fr,ks⟩ with
    | true=>simp [h0]
    | false=>simpa using aRu f p e h0 h ks
theorem aRu (f:Cond→Int)(p:Cond→Bool)(e:Int)(h0:e≠0)(h: ∀c,f c=if p c=true then e else 0): ∀l,fEs f l=if tC p l=true then e else 0
  | []=>rfl
  | c :: l=>by
    rw [fEs,tC,aOn f p e h0 h c]
    cases nS p c with
    | true=>simp [h0]
    | false=>simpa using aRu f p e h0 h l
end
def pMv (c:Cond):Bool:=decide (c.Kind=6) || decide (c.Kind=7)
theorem mv1_p (c:Cond):mv1 c=if pMv c=true then 2 else 0:=by
  unfold mv1 pMv
  simp only [Bool.or_eq_true,decide_eq_true_eq]
def mvE (r:Rules)(m:aF):Int:=
  if (r.Phases.any fun y=>decide (m.From=y))=true∧(r.Phases.any fun y=>decide (m.To=y))=true then
    if ckC m.When=0 then if nS pMv m.When=true then 2 else 0 else ckC m.When
  else 4
theorem move_eq (r : Rules) (m : aF) (hl : r.Phases.length ≤ 9223372036854775807) (ok : okC m.When) : Fcw r m = some (mvE r m) := by
  unfold Fcw mvE
  simp only [yB, wG]
  unfold Feu
  rw [wK [m.From, m.To] (fun _ x => if (r.Phases.any fun y => decide (x = y)) = true then none else some (some 4)) (if ckC m.When = 0 then some (if nS pMv m.When = true then 2 else 0) else some (ckC m.When)) (show (2 : Nat) ≤ _ by omega) ?_ ?_]
  · simp only [bD]
    cases (r.Phases.any fun y => decide (m.From = y)) <;> cases (r.Phases.any fun y => decide (m.To = y)) <;> simp <;> split <;> rfl
  · intro k i x hx hi
    simp only [yB]
    rw [wF hi, yU, dP hx, zU, aGi _ _ hl, zU, dE hi (show (2 : Nat) ≤ _ by omega)]
    cases (r.Phases.any fun y => decide (x = y)) <;> rfl
  · intro k
    simp only [yB]
    rw [wE, yX, nM _ ok, zU]
    by_cases z : ckC m.When = 0
    · have g := aEg z
      rw [if_pos z, decide_eq_false (by simpa using z), yX]
      unfold Ffe
      rw [aRp FU m.When (Nat.le_of_lt (aCk (by omega))) ok, zU, aOn mv1 pMv 2 (by decide) mv1_p]
    · rw [if_neg z, decide_eq_true z, yU]
def pRl (r:Rules)(i:Nat)(c:Cond):Bool:=(decide (c.Kind=6) && !(r.Phases.any fun y=>decide (c.Name=y))) || (decide (c.Kind=7) && !nmd (r.Rules.take i) c.Name)
def rl1 (r:Rules)(i:Nat)(c:Cond):Int:=if pRl r i c=true then 4 else 0
theorem rl1_eq (r:Rules)(i:Nat)(c:Cond)(hp:r.Phases.length≤9223372036854775807)(hr:r.Rules.length≤9223372036854775807)(hi:i≤r.Rules.length):Fce c r (i:Int)=some (rl1 r i c):=by
  unfold Fce rl1 pRl
  rw [aGi _ _ hp,aMm _ _ _ hi hr]
  simp only [yB,zU]
  generalize decide (c.Kind=6)=a
  generalize decide (c.Kind=7)=b
  generalize (r.Phases.any fun y=>decide (c.Name=y))=d
  generalize nmd (r.Rules.take i) c.Name=e
  cases a<;>cases b<;>cases d<;>cases e<;>rfl
theorem aQr (r : Rules) (i : Nat) (hp : r.Phases.length ≤ 9223372036854775807) (hr : r.Rules.length ≤ 9223372036854775807) (hi : i ≤ r.Rules.length) : ∀ (n : Nat) (c : Cond), dN c ≤ n → okC c → Fbt n c r (i : Int) = some (fE (rl1 r i) c)
  | 0, c, h, _ => by have := pO c; omega
  | n + 1, c, h, ok => by
    have hlen := ((nH c).1 ok).2.1
    show Fcc (Fbt n) c r (i : Int) = _
    unfold Fcc
    rw [rl1_eq r i c hp hr hi, zU, aCj]
    simp only [yB, wG]
    by_cases e : rl1 r i c = 0
    · rw [if_pos e, decide_eq_false (by simpa using e), yX]
      unfold Fen
      rw [wK c.Kids (fun _ x => if fE (rl1 r i) x = 0 then none else some (some (fE (rl1 r i) x))) (some 0) hlen ?_ ?_, aAb]
      · intro k j x hx hj
        obtain ⟨k1, k2, k3⟩ := jQ ok hx
        simp only [yB]
        rw [wF hj, yU, dP hx, zU, aQr r i hp hr hi n x (by omega) k1, zU, dE hj hlen]
        by_cases z : fE (rl1 r i) x = 0
        · rw [if_pos z, decide_eq_false (by simpa using z), yX]
        · rw [if_neg z, decide_eq_true z, yU]
      · intro k
        simp only [yB]
        rw [wE, yX]
    · rw [if_neg e, decide_eq_true e, yU]
def rlE (r:Rules)(i:Nat)(x:dH):Int:=
  if uG x.Name=true then if nmd (r.Rules.take i) x.Name=true then 5 else if ckC x.When=0 then if nS (pRl r i) x.When=true then 4 else 0 else ckC x.When else 8
theorem rule_eq (r : Rules) (i : Nat) (x : dH) (hx : r.Rules[i]? = some x) (hp : r.Phases.length ≤ 9223372036854775807) (hr : r.Rules.length ≤ 9223372036854775807) (hn : okS x.Name) (ok : okC x.When) : Fb6 r (i : Int) = some (rlE r i x) := by
  have hi : i ≤ r.Rules.length := Nat.le_of_lt (List.getElem?_eq_some_iff.1 hx).1
  unfold Fb6 rlE
  rw [dP hx, zU, rH _ hn, zU, aMm _ _ _ hi hr, nM _ ok]
  simp only [yB, zU]
  cases uG x.Name with
  | false => rfl
  | true =>
    cases nmd (r.Rules.take i) x.Name with
    | true => rfl
    | false =>
      simp only [Bool.not_true, yX, if_true, Bool.false_eq_true, if_false]
      by_cases z : ckC x.When = 0
      · have g := aEg z
        rw [if_pos z, decide_eq_false (by simpa using z), yX]
        unfold Ffb
        rw [aQr r i hp hr hi FU x.When (Nat.le_of_lt (aCk (by omega))) ok, zU, aOn (rl1 r i) (pRl r i) 4 (by decide) (fun _ => rfl)]
      · rw [if_neg z, decide_eq_true z, yU]
def okR (r:Rules):Prop:=okL okS r.Phases∧okL (fun m:aF=>okS m.From∧okS m.To∧okC m.When) r.Moves∧okL (fun x:dH=>okS x.Name∧okC x.When) r.Rules
def phE (l:List Str)(i:Nat)(x:Str):Int:=if uG x=true then if ((l.take i).any fun y=>decide (x=y))=true then 5 else 0 else 8
def chk (r:Rules):Option Int:=
  if (decide (20<(r.Phases.length:Int)) || decide (60<(r.Moves.length:Int))) || decide (60<(r.Rules.length:Int)) then some 3
  else bD (fun i x=>if phE r.Phases i x=0 then none else some (some (phE r.Phases i x))) (bD (fun _ m=>if mvE r m=0 then none else some (some (mvE r m))) (bD (fun i x=>if rlE r i x=0 then none else some (some (rlE r i x))) (some 0) r.Rules 0) r.Moves 0) r.Phases 0
theorem Check_eq (r : Rules) (ok : okR r) : Fa6 r = chk r := by
  obtain ⟨⟨p1, p2⟩, ⟨m1, m2⟩, ⟨r1, r2⟩⟩ := ok
  unfold Fa6 chk
  simp only [yB, wG, aN, zU]
  rw [kD]
  congr 1
  unfold Fft
  refine wK r.Phases _ _ p1 (fun k i x hx hi => ?_) (fun k => ?_)
  · have hm := p2 x (List.mem_of_getElem? hx)
    simp only [yB]
    rw [wF hi, yU, dP hx, zU, rH _ hm, zU, aNn _ _ (Nat.le_of_lt hi), zU, aGi _ _ (by rw [List.length_take]; omega), zU, dE hi p1]
    unfold phE
    cases uG x <;> cases ((r.Phases.take i).any fun y => decide (x = y)) <;> rfl
  · simp only [yB]
    rw [wE, yX]
    unfold Fea
    refine wK r.Moves _ _ m1 (fun k i x hx hi => ?_) (fun k => ?_)
    · have hm := m2 x (List.mem_of_getElem? hx)
      simp only [yB]
      rw [wF hi, yU, dP hx, zU, move_eq r x p1 hm.2.2, zU, dE hi m1]
      by_cases z : mvE r x = 0
      · rw [if_pos z, decide_eq_false (by simpa using z), yX]
      · rw [if_neg z, decide_eq_true z, yU]
    · simp only [yB]
      rw [wE, yX]
      unfold Feh
      refine wK r.Rules _ _ r1 (fun k i x hx hi => ?_) (fun k => ?_)
      · have hm := r2 x (List.mem_of_getElem? hx)
        simp only [yB]
        rw [wF hi, yU, rule_eq r i x hx p1 r1 hm.1 hm.2, zU, dE hi r1]
        by_cases z : rlE r i x = 0
        · rw [if_pos z, decide_eq_false (by simpa using z), yX]
        · rw [if_neg z, decide_eq_true z, yU]
      · simp only [yB]
        rw [wE, yX]
end Go.Lf
namespace Go.Lf
open Go.OB
theorem aAo {s:Str}(h:uG s=true):s.length≤30:=by
  unfold uG at h
  simp only [Bool.and_eq_true,decide_eq_true_eq] at h
  omega
structure Gd (c:Cond):Prop where
  k1:1≤c.Kind∧c.Kind≤15
  nm:c.Name.length≤30
  ot:c.Other.length≤30
  op:0≤c.Op∧c.Op≤6
  n: -1125899906842624≤c.N∧c.N≤1125899906842624
  fr:0≤c.Frames∧c.Frames≤4096
set_option maxHeartbeats 20000000 in
theorem gd_in (nm ot:Str)(op n fr:Int)(ks:List Cond)(k:Int)(hk2:k=1∨k=2∨k=3∨k=4∨k=5∨k=6∨k=7∨k=8∨k=9∨k=10∨k=11∨k=12∨k=13∨k=14∨k=15)(h1:okS nm)(h2:okS ot)(h:Faa ⟨k,nm,ot,op,n,fr,ks⟩=some 0):Gd ⟨k,nm,ot,op,n,fr,ks⟩:=by
  have q1:= @aAo nm
  have q2:= @aAo ot
  rcases hk2 with rfl | rfl | rfl | rfl | rfl | rfl | rfl | rfl | rfl | rfl | rfl | rfl | rfl | rfl | rfl<;>
    (unfold Faa at h
     simp only [rf1,rf2,rf3,rf4,rf5,rf6,rf7,rf8,rf9,aPz,aNw,aPc,aPf,rf14,rf15,zU,yB,Bool.not_true,Bool.not_false,yU,yX,wG,out6,dS _ h1,dS _ h2,Int.reduceEq,Int.reduceLT,Int.reduceLE,decide_true,decide_false,Bool.or_self,nP,aN,kM] at h
     simp only [kD] at h
     constructor<;>grind)
theorem gd_of {c : Cond} (ok : okC c) (hk : c.Kids.length ≤ 200) (h : ck1 c = 0) : Gd c := by
  have e := (aCw c (tX ok) hk).2
  rw [h] at e
  by_cases hb : 1 ≤ c.Kind ∧ c.Kind ≤ 15
  · have o := tX ok
    obtain ⟨k, nm, ot, op, n, fr, ks⟩ := c
    have hk2 : k = 1 ∨ k = 2 ∨ k = 3 ∨ k = 4 ∨ k = 5 ∨ k = 6 ∨ k = 7 ∨ k = 8 ∨ k = 9 ∨ k = 10 ∨ k = 11 ∨ k = 12 ∨ k = 13 ∨ k = 14 ∨ k = 15 := by have := hb.1; have := hb.2; simp only at *; omega
    exact gd_in nm ot op n fr ks k hk2 o.1 o.2 e
  · rw [(aPo c hb).2] at e
    cases e
theorem aSc {f : Cond → Int} : ∀ {l : List Cond}, fEs f l = 0 → ∀ x ∈ l, fE f x = 0
  | [], _, x, hx => by cases hx
  | a :: l, h, x, hx => by
    rw [fEs] at h
    split at h
    · rename_i q
      rcases List.mem_cons.1 hx with rfl | hx
      · exact q
      · exact aSc h x hx
    · rename_i q; exact absurd h q
structure Gt (c:Cond):Prop where
  ok:okC c
  d:dN c≤20
  n:cN c≤200
  e:fE ck1 c=0
theorem gt_of {c:Cond}(ok:okC c)(h:ckC c=0):Gt c:=by
  obtain ⟨h1,h2,h3⟩:=aEg h
  exact ⟨ok,h1,h2,h3⟩
theorem Gt.self {c:Cond}(g:Gt c):Gd c:=by
  have h:=g.e
  rw [aCj] at h
  have h1:=wY c.Kids
  have h2:=aAa c
  have h3:=g.n
  split at h
  · rename_i q; exact gd_of g.ok (by omega) q
  · rename_i q; exact absurd h q
theorem Gt.kid {c x:Cond}(g:Gt c)(hx:x ∈ c.Kids):Gt x:=by
  obtain ⟨j,hj⟩:=List.getElem?_of_mem hx
  obtain ⟨k1,k2,k3⟩:=jQ g.ok hj
  have h1:=g.d
  have h2:=g.n
  refine ⟨k1,by omega,by omega,?_⟩
  have h:=g.e
  rw [aCj] at h
  split at h
  · exact aSc h x hx
  · rename_i q; exact absurd h q
theorem Gt.kids {c:Cond}(g:Gt c):c.Kids.length≤200:=by
  have h1:=wY c.Kids
  have h2:=aAa c
  have h3:=g.n
  omega
end Go.Lf
namespace Go.Lf
open Go.OB
theorem appN {α:Type}(b:Nat)(p q:List α)(h:p.length+q.length≤1000)(hb:b≤1000):app' b p q=some (p++q):=by
  unfold app'
  have:=Nat.mul_le_mul h hb
  rw [if_pos ⟨by rw [maxLen_eq]; omega,by omega⟩]
theorem take_snoc {α:Type}{l:List α}{i:Nat}{x:α}(hx:l[i]? =some x):l.take (i+1)=l.take i++ [x]:=by
  rw [List.take_add_one,hx]; rfl
structure Gr' (r:Rules):Prop where
  p:r.Phases.length≤20
  m:r.Moves.length≤60
  l:r.Rules.length≤60
  pn: ∀x ∈ r.Phases,x.length≤30
  pd: ∀(i:Nat) x,r.Phases[i]? =some x→x ∉ r.Phases.take i
  mg: ∀x ∈ r.Moves,Gt x.When∧x.From.length≤30∧x.To.length≤30
  lg: ∀x ∈ r.Rules,Gt x.When∧x.Name.length≤30
theorem bH {α : Type} (e : Nat → α → Int) (fin : Option Int) : ∀ (l : List α) (i : Nat), bD (fun i x => if e i x = 0 then none else some (some (e i x))) fin l i = some 0 → fin = some 0 ∧ ∀ (j : Nat) x, l[j]? = some x → e (i + j) x = 0
  | [], i, h => ⟨h, fun j x hx => by simp at hx⟩
  | a :: l, i, h => by
    rw [bD] at h
    by_cases z : e i a = 0
    · rw [if_pos z] at h
      obtain ⟨h1, h2⟩ := bH e fin l (i + 1) h
      refine ⟨h1, fun j x hx => ?_⟩
      cases j with
      | zero => simp at hx; subst hx; simpa using z
      | succ j => have := h2 j x (by simpa using hx); rwa [show i + (j + 1) = i + 1 + j by omega]
    · rw [if_neg z] at h
      exact absurd (Option.some.inj h) z
theorem aEm {r : Rules} (ok : okR r) (h : chk r = some 0) : Gr' r := by
  unfold chk at h
  split at h
  · exact absurd (Option.some.inj h) (by decide)
  · rename_i q
    simp only [Bool.or_eq_true, decide_eq_true_eq, not_or] at q
    obtain ⟨h1, h2⟩ := bH (phE r.Phases) _ _ _ h
    obtain ⟨h3, h4⟩ := bH (fun _ => mvE r) _ _ _ h1
    obtain ⟨h5, h6⟩ := bH (rlE r) _ _ _ h3
    have ph : ∀ (i : Nat) x, r.Phases[i]? = some x → uG x = true ∧ x ∉ r.Phases.take i := by
      intro i x hx
      have := h2 i x hx
      rw [Nat.zero_add] at this
      unfold phE at this
      split at this
      · rename_i a
        refine ⟨a, ?_⟩
        split at this
        · exact absurd this (by decide)
        · rename_i b
          intro hm
          exact b (List.any_eq_true.2 ⟨x, hm, by simp⟩)
      · exact absurd this (by decide)
    have pn : ∀ x ∈ r.Phases, x.length ≤ 30 := by
      intro x hx
      obtain ⟨j, hj⟩ := List.getElem?_of_mem hx
      exact aAo (ph j x hj).1
    refine ⟨by omega, by omega, by omega, pn, fun i x hx => (ph i x hx).2, ?_, ?_⟩
    · intro x hx
      obtain ⟨j, hj⟩ := List.getElem?_of_mem hx
      have := h4 j x hj
      unfold mvE at this
      split at this
      · rename_i a
        split at this
        · rename_i b
          obtain ⟨y, y1, y2⟩ := List.any_eq_true.1 a.1
          obtain ⟨z, z1, z2⟩ := List.any_eq_true.1 a.2
          refine ⟨gt_of (ok.2.1.2 x hx).2.2 b, ?_, ?_⟩
          · rw [of_decide_eq_true y2]; exact pn y y1
          · rw [of_decide_eq_true z2]; exact pn z z1
        · rename_i b; exact absurd this b
      · exact absurd this (by decide)
    · intro x hx
      obtain ⟨j, hj⟩ := List.getElem?_of_mem hx
      have := h6 j x hj
      unfold rlE at this
      split at this
      · rename_i a
        split at this
        · exact absurd this (by decide)
        · split at this
          · rename_i b; exact ⟨gt_of (ok.2.2.2 x hx).2 b, aAo a⟩
          · rename_i b; exact absurd this b
      · exact absurd this (by decide)
theorem aNm (r:Rules): ∃e,chk r=some e:=by
  have key: ∀{α:Type} (e:Nat→α→Int) (fin:Option Int) (_: ∃z,fin=some z) (l:List α) (i:Nat),∃z,bD (fun i x=>if e i x=0 then none else some (some (e i x))) fin l i=some z:=by
    intro α e fin hf l
    induction l with
    | nil=>intro i; exact hf
    | cons a l ih=>
      intro i
      rw [bD]
      by_cases z:e i a=0
      · rw [if_pos z]; exact ih (i+1)
      · rw [if_neg z]; exact ⟨_,rfl⟩
  unfold chk
  split
  · exact ⟨_,rfl⟩
  · exact key (phE r.Phases) _ (key (fun _=>mvE r) _ (key (rlE r) _ ⟨0,rfl⟩ _ _) _ _) _ _
end Go.Lf
namespace Go.Lf
open Go.OB
theorem app1 (p q:List Int)(h:p.length+q.length≤140737488355328):app' 1 p q=some (p++q):=by
  unfold app'
  rw [if_pos ⟨by rw [Go.OB.maxLen_eq]; omega,by omega⟩]
theorem vU (p:List Int)(n:Int)(hn:0≤n∧n≤18446744073709551615)(h:p.length+20≤140737488355328): ∃q,Fcn p n 10=some q∧q.length≤p.length+20:=by
  unfold Fcn
  rw [if_pos ⟨rfl,hn.1,hn.2,h⟩]
  refine ⟨_,rfl,?_⟩
  rw [List.length_append,uM,Lib.decDigits_length]
  have:=Lib.nDigits_le20 n.toNat (by omega)
  omega
theorem aRb (n:Int):0≤IntKind.u64.wrap n∧IntKind.u64.wrap n≤18446744073709551615:=by
  rw [IntKind.wrap_u64]; omega
theorem aJz (p : List Int) (n : Int) (h : p.length + 21 ≤ 140737488355328) : ∃ q, Fb1 p n 10 = some q ∧ q.length ≤ p.length + 21 := by
  have e : ∃ q, Fbz p n 10 = some q ∧ q.length ≤ p.length + 21 := by
    unfold Fbz
    simp only [yB, wC]
    by_cases c : n < 0
    · have ha := app1 p [45] (by simp; omega)
      rw [if_pos c, ha, zU, zU]
      obtain ⟨q, h1, h2⟩ := vU (p ++ [45]) (IntKind.u64.wrap (-IntKind.u64.wrap n)) (aRb _) (by simp; omega)
      simp only []
      rw [h1, zU]
      exact ⟨q, rfl, by simp at h2; omega⟩
    · rw [if_neg c, zU]
      obtain ⟨q, h1, h2⟩ := vU p (IntKind.u64.wrap n) (aRb _) (by omega)
      simp only []
      rw [h1, zU]
      exact ⟨q, rfl, by omega⟩
  obtain ⟨q, h1, h2⟩ := e
  unfold Fb1
  rw [h1, zU]
  exact ⟨q, rfl, h2⟩
def Gr (r:Option gU)(n:Nat):Prop:= ∃q,r=some q∧q.out.length≤n
theorem Gr.bind {a:Option gU}{k:gU→Option gU}{n m:Nat}(h:Gr a n)(hk: ∀q,q.out.length≤n→Gr (k q) m):Gr (gG a k) m:=by
  obtain ⟨q,h1,h2⟩:=h
  rw [h1,zU]; exact hk q h2
theorem Gr.get {r:Option gU}{n:Nat}(h:Gr r n): ∃q,r=Option.some q∧q.out.length≤n:=h
theorem Gr.some {q:gU}{n:Nat}(h:q.out.length≤n):Gr (Option.some q) n:=⟨q,rfl,h⟩
theorem aCx (p:gU)(n:Int){b:Nat}(hp:p.out.length≤b)(h:b≤100000000000000):Gr (Fat p n) (b+22):=by
  obtain ⟨q,h1,h2⟩:=aJz p.out n (by omega)
  unfold Fat
  rw [h1,zU]
  simp only [yB]
  rw [app1 q [32] (by simp; omega),zU]
  exact Gr.some (by simp; omega)
theorem ink_Ints (p : gU) (l : List Int) {b : Nat} (hp : p.out.length ≤ b) (h : b + 22 + 22 * l.length ≤ 100000000000000) : Gr (Fb9 p l) (b + 22 + 22 * l.length) := by
  unfold Fb9
  simp only [yB]
  refine (aCx p _ hp (by omega)).bind fun q hq => ?_
  unfold Few
  refine nZ (fun (i : Nat) (s : List Int) => ((i : Int), s)) l (fun i s => s.length ≤ b + 22 + 22 * i) (fun (r : gU) => r.out.length ≤ b + 22 + 22 * l.length) (by omega) ?_ ?_ _ (by simpa using hq)
  · intro kk i s x hx hi hI
    obtain ⟨r, h1, h2⟩ := aCx (gU.mk s) x hI (by omega)
    refine ⟨r.out, by omega, ?_⟩
    simp only [yB]
    rw [wF hi, yU, dP hx, zU, h1, zU, dE hi (by omega)]
  · intro kk s hI
    simp only [yB]
    rw [wE, yX]
    exact ⟨_, rfl, hI⟩
set_option maxRecDepth 1000000 in
theorem wX:Fbw=some true:=by kernel_rfl
end Go.Lf
