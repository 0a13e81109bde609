/- Walks: what each function computes, for every argument; no condition but those that stand in the statements. -/
import Derived.Test.YtckmiljbaejijaaGreatDoorSOk
import Derived.Test.YtckmiljbaejijaaGreatDoorPl
import Derived.Test.YtckmiljbaejijaaGreatDoorPl2
namespace Go.Lf
def kws:List Str:=[[112,104,97,115,101],[109,111,118,101],[114,117,108,101],[105,102],[111,114],[97,110,100],[116,114,117,101],[102,97,108,115,101],[115,116,101,97,100,121],[110,111,116],[102,111,114],[119,105,116,104,105,110],[99,111,117,110,116],[111,102],[114,105,115,101,115],[115,105,110,99,101]]
theorem ewithin (a b c:Int):Fae a b c=some (decide (b≤a) && decide (a≤c)):=by
  unfold Fae; simp only [yD,iteB_and,zW]
theorem out6 (a b c:Int):Faz a b c=some (decide (a<b) || decide (c<a)):=by
  unfold Faz; simp only [yD,iteB_or2,zW]
def isW (s:Str):Bool:=decide (s ∈ kws)
theorem isWord_eq (s:Str):Fbm s=some (isW s):=by
  unfold Fbm isW kws
  simp only [yD,iteB_or,zW,iteB_id,List.mem_cons,List.not_mem_nil,or_false,Bool.decide_or]
def nmB (c:Int):Bool:=(decide (97≤c) && decide (c≤122)) || (decide (48≤c) && decide (c≤57)) || decide (c=45)
theorem nameByte_eq (c:Int):Fbb c=some (nmB c):=by
  unfold Fbb nmB
  simp only [yD,zW]
  cases decide (97≤c)<;>cases decide (c≤122)<;>cases decide (48≤c)<;>cases decide (c≤57)<;>cases decide (c=45)<;>rfl
def badB:Nat→UInt8→Bool:=fun _ c=> !nmB (c.toNat:Int)
theorem isName_L1 (s : Str) (hs : okS s) (k : Unit → Option Bool) : Fdp s k (s.length : Int) 0 = if jB badB s 0 = true then some false else k () := by
  unfold Fdp
  rw [wK s (fun i c => if badB i c = true then some (some false) else none) (k ()) hs]
  · exact findO_any badB (some false) (k ()) s 0
  · intro kk i c hc hi
    unfold badB
    simp only [yD]
    rw [wG hi, yZ, byte_nat hc, zW, nameByte_eq, zW]
    cases nmB (c.toNat : Int)
    · rfl
    · simp only [Bool.not_true, xC]; rw [dG hi hs]; rfl
  · intro kk; simp only [yD]; rw [wF]; rfl
def firstOk (s:Str):Bool:=match s with
  | []=>false
  | c :: _=>decide (97≤(c.toNat:Int)) && decide ((c.toNat:Int)≤122)
def isNm (s:Str):Bool:=decide (s.length≤30) && firstOk s && !isW s && !jB badB s 0
theorem isName_eq (s:Str)(hs:okS s):Fah s=some (isNm s):=by
  unfold Fah isNm
  simp only [yD,zW,ewithin,dF,isName_L1 s hs,isWord_eq]
  cases s with
  | nil=>rfl
  | cons c l=>
    have h0:byte' (c :: l) 0=some (c.toNat:Int):=byte_nat (i:=0) rfl
    have h1:decide ((1:Int)≤((c :: l).length:Int))=true:=decide_eq_true (by simp; omega)
    have h2:decide (((c :: l).length:Int)≤30)=decide ((c :: l).length≤30):=decide_eq_decide.2 (by omega)
    have h3:decide ((c.toNat:Int)<97)= !decide (97≤(c.toNat:Int)):=by rw [← decide_not]; exact decide_eq_decide.2 (by omega)
    have h4:decide (122<(c.toNat:Int))= !decide ((c.toNat:Int)≤122):=by rw [← decide_not]; exact decide_eq_decide.2 (by omega)
    rw [h0,h1,h2]
    simp only [zW,Bool.true_and,h3,h4,firstOk]
    cases decide ((c :: l).length≤30)<;>cases decide (97≤(c.toNat:Int))<;>cases decide ((c.toNat:Int)≤122)<;>cases isW (c :: l)<;>cases jB badB (c :: l) 0<;>rfl
end Go.Lf
namespace Go.Lf
theorem reserved_eq (s : Str) : Ffw s = some (isW s) := by
  unfold Ffw Fgp
  simp only [yD, zW, dF]
  change Fe6 s kws (fun _ => some false) 0 = _
  unfold Fe6
  rw [wK kws (fun _ x => if decide (x = s) = true then some (some true) else none) (some false) (by decide)]
  · rw [findO_any (fun _ x => decide (x = s))]
    have e : jB (fun _ x => decide (x = s)) kws 0 = isW s := by
      rw [Bool.eq_iff_iff, anyI_iff]
      unfold isW
      simp only [decide_eq_true_eq]
      constructor
      · rintro ⟨j, x, h, rfl⟩; exact List.mem_of_getElem? h
      · intro h; obtain ⟨j, hj⟩ := List.getElem?_of_mem h; exact ⟨j, s, hj, rfl⟩
    rw [e]; cases isW s <;> rfl
  · intro kk i c hc hi
    simp only [yD]
    rw [wG hi, yZ, dL hc, zW]
    cases decide (c = s)
    · simp only [xC]; rw [dG hi (by decide)]; rfl
    · rfl
  · intro kk; simp only [yD]; rw [wF]; rfl
def badR:Nat→UInt8→Bool:=fun i c=> !((decide (97≤(c.toNat:Int)) && decide ((c.toNat:Int)≤122)) || (decide (0<(i:Int)) && ((decide (48≤(c.toNat:Int)) && decide ((c.toNat:Int)≤57)) || decide ((c.toNat:Int)=45))))
theorem rIsName_L1 (s : Str) (hs : okS s) (k : Unit → Option Bool) : Ff0 s k 0 = if jB badR s 0 = true then some false else k () := by
  unfold Ff0
  rw [wK s (fun i c => if badR i c = true then some (some false) else none) (k ()) hs]
  · exact findO_any badR (some false) (k ()) s 0
  · intro kk i c hc hi
    unfold badR
    simp only [yD]
    rw [wG hi, yZ, byte_nat hc, zW]
    rw [dG hi hs]
    cases decide (97 ≤ (c.toNat : Int)) <;> cases decide ((c.toNat : Int) ≤ 122) <;> cases decide (0 < (i : Int)) <;> cases decide (48 ≤ (c.toNat : Int)) <;> cases decide ((c.toNat : Int) ≤ 57) <;> cases decide ((c.toNat : Int) = 45) <;> rfl
  · intro kk; simp only [yD]; rw [wF]; rfl
theorem rIsName_eq (s:Str)(hs:okS s):Fdu s=some (isNm s):=by
  unfold Fdu isNm
  simp only [yD,zW,dF,rIsName_L1 s hs,reserved_eq]
  cases s with
  | nil=>rfl
  | cons c l=>
    have h2:decide (((c :: l).length:Int)≤30)=decide ((c :: l).length≤30):=decide_eq_decide.2 (by omega)
    have h5:decide ((c :: l)≠ [])=true:=by simp
    have e:jB badR l (0+1)=jB badB l (0+1):=anyI_congr l (0+1) fun j x _=>by
      have:decide (0<((0+1+j:Nat):Int))=true:=decide_eq_true (by omega)
      unfold badR badB nmB
      rw [this]
      simp only [Bool.true_and,Bool.or_assoc]
    rw [jB,jB,e,h2,h5]
    have e2:badR 0 c= !(decide (97≤(c.toNat:Int)) && decide ((c.toNat:Int)≤122)):=by unfold badR; simp
    have e3:badB 0 c= !(firstOk (c :: l) || (decide (48≤(c.toNat:Int)) && decide ((c.toNat:Int)≤57)) || decide ((c.toNat:Int)=45)):=rfl
    have e4:badR 0 c= !firstOk (c :: l):=e2
    rw [e3,e4]
    cases firstOk (c :: l)<;>cases jB badB l (0+1)<;>cases decide ((c :: l).length≤30)<;>cases isW (c :: l)<;>simp [gX,gG]
theorem not_out (a b c:Int):(decide (a<b) || decide (c<a))= !(decide (b≤a) && decide (a≤c)):=by
  by_cases h1:b≤a<;>by_cases h2:a≤c<;>simp [h1,h2]<;>omega
end Go.Lf
namespace Go.Lf
open Go.OB
def okN (c:Cond):Prop:=okS c.Name∧okS c.Other
theorem len_k (n : Nat) (k : Int) : (!(decide (k ≤ (n : Int)) && decide ((n : Int) ≤ k))) = decide ((n : Int) ≠ k) := by
  by_cases h : (n : Int) = k
  · simp [h]
  · by_cases h1 : k ≤ (n : Int)
    · by_cases h2 : (n : Int) ≤ k
      · omega
      · simp [h, h1, h2]
    · simp [h, h1]
theorem len_2 {n:Nat}(hn:n≤200):(!(decide (2≤(n:Int)) && decide ((n:Int)≤200)))=decide ((n:Int)<2):=by
  rw [Bool.eq_iff_iff]
  simp only [Bool.not_eq_true',Bool.and_eq_false_iff,decide_eq_false_iff_not,decide_eq_true_eq]
  omega
section
variable (nm ot:Str) (op n fr:Int) (ks:List Cond)
theorem fo1:Faa 1=some (⟨false,false,false,false,false,0,0⟩,true):=rfl
theorem rf1:Fab 1=some (false,false,false,false,false,0):=rfl
theorem fo2:Faa 2=some (⟨false,false,false,false,false,0,0⟩,true):=rfl
theorem rf2:Fab 2=some (false,false,false,false,false,0):=rfl
theorem fo3:Faa 3=some (⟨true,false,true,true,false,0,0⟩,true):=rfl
theorem rf3:Fab 3=some (true,false,true,true,false,0):=rfl
theorem fo4:Faa 4=some (⟨true,true,true,false,false,0,0⟩,true):=rfl
theorem rf4:Fab 4=some (true,true,true,false,false,0):=rfl
theorem fo5:Faa 5=some (⟨true,false,false,true,true,0,0⟩,true):=rfl
theorem rf5:Fab 5=some (true,false,false,true,true,0):=rfl
theorem fo6:Faa 6=some (⟨true,false,false,false,false,0,0⟩,true):=rfl
theorem rf6:Fab 6=some (true,false,false,false,false,0):=rfl
theorem fo7:Faa 7=some (⟨true,false,false,false,false,0,0⟩,true):=rfl
theorem rf7:Fab 7=some (true,false,false,false,false,0):=rfl
theorem fo8:Faa 8=some (⟨false,false,false,false,false,1,1⟩,true):=rfl
theorem rf8:Fab 8=some (false,false,false,false,false,1):=rfl
theorem fo9:Faa 9=some (⟨false,false,false,false,false,2,200⟩,true):=rfl
theorem rf9:Fab 9=some (false,false,false,false,false,(-1)):=rfl
theorem fo10:Faa 10=some (⟨false,false,false,false,false,2,200⟩,true):=rfl
theorem rf10:Fab 10=some (false,false,false,false,false,(-1)):=rfl
theorem fo11:Faa 11=some (⟨false,false,false,false,true,1,1⟩,true):=rfl
theorem rf11:Fab 11=some (false,false,false,false,true,1):=rfl
theorem fo12:Faa 12=some (⟨false,false,false,false,true,1,1⟩,true):=rfl
theorem rf12:Fab 12=some (false,false,false,false,true,1):=rfl
theorem fo13:Faa 13=some (⟨false,false,false,true,true,1,1⟩,true):=rfl
theorem rf13:Fab 13=some (false,false,false,true,true,1):=rfl
theorem fo14:Faa 14=some (⟨false,false,false,false,false,2,2⟩,true):=rfl
theorem rf14:Fab 14=some (false,false,false,false,false,2):=rfl
theorem fo15:Faa 15=some (⟨false,false,false,false,false,1,1⟩,true):=rfl
theorem rf15:Fab 15=some (false,false,false,false,false,1):=rfl
set_option maxHeartbeats 20000000 in
theorem chk_in (k:Int)(hk2:k=1∨k=2∨k=3∨k=4∨k=5∨k=6∨k=7∨k=8∨k=9∨k=10∨k=11∨k=12∨k=13∨k=14∨k=15)(h1:okS nm)(h2:okS ot)(hk:ks.length≤200):Fam ⟨k,nm,ot,op,n,fr,ks⟩=Fad ⟨k,nm,ot,op,n,fr,ks⟩∧ ∃r,Fad ⟨k,nm,ot,op,n,fr,ks⟩=some r:=by
  have hb:(decide (1≤fr) && decide (fr≤4096))=true→(decide (1≤n) && decide (n≤fr))=true→(decide (-1125899906842624≤n) && decide (n≤1125899906842624))=true:=by
    simp only [Bool.and_eq_true,decide_eq_true_eq]; omega
  rcases hk2 with rfl | rfl | rfl | rfl | rfl | rfl | rfl | rfl | rfl | rfl | rfl | rfl | rfl | rfl | rfl<;>
    (unfold Fam Fad
     simp only [fo1,fo2,fo3,fo4,fo5,fo6,fo7,fo8,fo9,fo10,fo11,fo12,fo13,fo14,fo15,rf1,rf2,rf3,rf4,rf5,rf6,rf7,rf8,rf9,rf10,rf11,rf12,rf13,rf14,rf15,zW,yD,Bool.not_true,Bool.not_false,yZ,xC,dF,out6,ewithin,isName_eq _ h1,rIsName_eq _ h1,isName_eq _ h2,rIsName_eq _ h2,Int.reduceEq,Int.reduceLT,Int.reduceLE,decide_true,decide_false,Bool.or_self,iteB_or,iteB_or2,iteB_and]
     simp only [not_out,len_k,len_2 hk]
     generalize (decide (1≤op) && decide (op≤6))=b1
     generalize (decide (1≤fr) && decide (fr≤4096))=b2 at hb ⊢
     generalize (decide (1≤n) && decide (n≤fr))=b3 at hb ⊢
     generalize (decide (-1125899906842624≤n) && decide (n≤1125899906842624))=b4 at hb ⊢
     simp only [iteB_ite]
     grind)
end
theorem chk_no (c : Cond) (h : ¬ (1 ≤ c.Kind ∧ c.Kind ≤ 15)) : Fam c = some 7 ∧ Fad c = some 7 := by
  have e : ∀ k : Int, 1 ≤ k → k ≤ 15 → decide (c.Kind = k) = false := fun k h1 h2 => decide_eq_false (by omega)
  constructor
  · unfold Fam Faa
    simp only [yD, e 1 (by decide) (by decide), e 2 (by decide) (by decide), e 3 (by decide) (by decide), e 4 (by decide) (by decide), e 5 (by decide) (by decide), e 6 (by decide) (by decide), e 7 (by decide) (by decide), e 8 (by decide) (by decide), e 9 (by decide) (by decide), e 10 (by decide) (by decide), e 11 (by decide) (by decide), e 12 (by decide) (by decide), e 13 (by decide) (by decide), e 14 (by decide) (by decide), e 15 (by decide) (by decide), xC, zW, Bool.not_false, yZ]
  · unfold Fad
    rw [out6, zW, not_out]
    have q : (decide (1 ≤ c.Kind) && decide (c.Kind ≤ 15)) = false := by
      rw [Bool.and_eq_false_iff, decide_eq_false_iff_not, decide_eq_false_iff_not]; omega
    rw [q]; rfl
def ck1 (c:Cond):Int:=(Fad c).getD 0
theorem ck_both (c : Cond) (h : okN c) (hk : c.Kids.length ≤ 200) : Fam c = some (ck1 c) ∧ Fad c = some (ck1 c) := by
  have key : Fam c = Fad c ∧ ∃ r, Fad c = some r := by
    by_cases hb : 1 ≤ c.Kind ∧ c.Kind ≤ 15
    · obtain ⟨k, nm, ot, op, n, fr, ks⟩ := c
      have hk2 : k = 1 ∨ k = 2 ∨ k = 3 ∨ k = 4 ∨ k = 5 ∨ k = 6 ∨ k = 7 ∨ k = 8 ∨ k = 9 ∨ k = 10 ∨ k = 11 ∨ k = 12 ∨ k = 13 ∨ k = 14 ∨ k = 15 := by have := hb.1; have := hb.2; simp only at *; omega
      exact chk_in nm ot op n fr ks k hk2 h.1 h.2 hk
    · obtain ⟨h1, h2⟩ := chk_no c hb
      exact ⟨h1.trans h2.symm, _, h2⟩
  obtain ⟨h1, r, h2⟩ := key
  have e : ck1 c = r := by unfold ck1; rw [h2]; rfl
  rw [e, h1]
  exact ⟨h2, h2⟩
end Go.Lf
namespace Go.Lf
open Go.OB
mutual
def cN:Cond→Nat
  | ⟨_,_,_,_,_,_,ks⟩=>1+cNs ks
def cNs:List Cond→Nat
  | []=>0
  | c :: l=>cN c+cNs l
end
mutual
def dN:Cond→Nat
  | ⟨_,_,_,_,_,_,ks⟩=>1+dNs ks
def dNs:List Cond→Nat
  | []=>0
  | c :: l=>max (dN c) (dNs l)
end
mutual
def okC:Cond→Prop
  | ⟨k,nm,ot,op,n,fr,ks⟩=>(i64 k∧okS nm∧okS ot∧i64 op∧i64 n∧i64 fr)∧ks.length≤9223372036854775807∧okCs ks
def okCs:List Cond→Prop
  | []=>True
  | c :: l=>okC c∧okCs l
end
mutual
def fE (f:Cond→Int):Cond→Int
  | ⟨k,nm,ot,op,n,fr,ks⟩=>if f ⟨k,nm,ot,op,n,fr,ks⟩=0 then fEs f ks else f ⟨k,nm,ot,op,n,fr,ks⟩
def fEs (f:Cond→Int):List Cond→Int
  | []=>0
  | c :: l=>if fE f c=0 then fEs f l else fE f c
end
theorem cN_eq (c:Cond):cN c=1+cNs c.Kids:=by cases c; rfl
theorem dN_eq (c:Cond):dN c=1+dNs c.Kids:=by cases c; rfl
theorem fE_eq (f:Cond→Int)(c:Cond):fE f c=if f c=0 then fEs f c.Kids else f c:=by cases c; rfl
theorem okC_eq (c:Cond):okC c↔(i64 c.Kind∧okS c.Name∧okS c.Other∧i64 c.Op∧i64 c.N∧i64 c.Frames)∧c.Kids.length≤9223372036854775807∧okCs c.Kids:=by cases c; rfl
theorem okCs_iff: ∀(l:List Cond),okCs l↔ ∀c ∈ l,okC c
  | []=>by simp [okCs]
  | c :: l=>by rw [okCs,okCs_iff l]; simp
theorem cN_pos (c:Cond):1≤cN c:=by rw [cN_eq]; omega
theorem dN_pos (c:Cond):1≤dN c:=by rw [dN_eq]; omega
theorem len_cNs: ∀l:List Cond,l.length≤cNs l
  | []=>Nat.le_refl _
  | c :: l=>by have:=len_cNs l; have:=cN_pos c; rw [cNs,List.length_cons]; omega
theorem mem_cNs {c:Cond}: ∀{l:List Cond},c ∈ l→cN c≤cNs l
  | a :: l,h=>by
    rw [cNs]
    rcases List.mem_cons.1 h with rfl | h
    · omega
    · have:=mem_cNs h; omega
theorem mem_dNs {c:Cond}: ∀{l:List Cond},c ∈ l→dN c≤dNs l
  | a :: l,h=>by
    rw [dNs]
    rcases List.mem_cons.1 h with rfl | h
    · omega
    · have:=mem_dNs h; omega
def stS (rf:Cond→Int→Int→Option (Bool×Int))(l:Int):Nat→Cond→Int→Int ⊕ Option (Bool×Int):=fun _ x s=>match rf x l s with
  | none=> .inr none
  | some (true,s')=> .inl s'
  | some (false,s')=> .inr (some (false,s'))
theorem small_list (rf : Cond → Int → Int → Option (Bool × Int)) (l : Nat) :
    ∀ (ks : List Cond) (_ : ∀ c ∈ ks, ∀ k : Nat, k ≤ 200 → ∃ k' : Nat, rf c (l : Int) (k : Int) = some (decide (dN c ≤ l ∧ k + cN c ≤ 200), (k' : Int)) ∧ (dN c ≤ l ∧ k + cN c ≤ 200 → k' = k + cN c)) (i k : Nat), k ≤ 200 → ∃ k' : Nat, runL (stS rf l) (fun s => some (true, s)) ks i (k : Int) = some (decide (dNs ks ≤ l ∧ k + cNs ks ≤ 200), (k' : Int)) ∧ (dNs ks ≤ l ∧ k + cNs ks ≤ 200 → k' = k + cNs ks)
  | [], _, i, k, hk => ⟨k, by simp [runL, dNs, cNs, hk], fun _ => by simp [cNs]⟩
  | c :: ks, hr, i, k, hk => by
    obtain ⟨k1, h1, h2⟩ := hr c List.mem_cons_self k hk
    rw [runL]
    simp only [stS, h1]
    by_cases hc : dN c ≤ l ∧ k + cN c ≤ 200
    · obtain rfl := h2 hc
      obtain ⟨k2, h3, h4⟩ := small_list rf l ks (fun c hc => hr c (List.mem_cons_of_mem _ hc)) (i + 1) (k + cN c) hc.2
      rw [decide_eq_true hc]
      refine ⟨k2, ?_, ?_⟩
      · simp only []
        rw [h3]
        congr 2
        rw [decide_eq_decide, dNs, cNs]
        have := hc.1
        omega
      · rw [dNs, cNs]; intro h; rw [h4 (by omega)]; omega
    · rw [decide_eq_false hc]
      refine ⟨k1, ?_, ?_⟩
      · simp only []
        congr 2
        refine (decide_eq_false ?_).symm
        rw [dNs, cNs]; omega
      · rw [dNs, cNs]; intro h; exfalso; omega
theorem small_R : ∀ (n : Nat) (c : Cond) (l k : Nat), l < n → k ≤ 200 → l ≤ 1000 → okC c → ∃ k' : Nat, Fap n c (l : Int) (k : Int) = some (decide (dN c ≤ l ∧ k + cN c ≤ 200), (k' : Int)) ∧ (dN c ≤ l ∧ k + cN c ≤ 200 → k' = k + cN c)
  | 0, _, _, _, h, _, _, _ => by omega
  | n + 1, c, l, k, h, hk, hl, ok => by
    have hlen := ((okC_eq c).1 ok).2.1
    have oks := (okCs_iff _).1 ((okC_eq c).1 ok).2.2
    have ew : IntKind.i64.wrap ((k : Int) + 1) = ((k + 1 : Nat) : Int) := dG (n := 1000) (by omega) (by omega)
    show ∃ k' : Nat, Fb5 (Fap n) c (l : Int) (k : Int) = _ ∧ _
    unfold Fb5
    simp only [yD, dF, iteB_or2, zW, ew]
    have hd := dN_eq c
    have hc := cN_eq c
    by_cases h0 : l = 0
    · subst h0
      refine ⟨k + 1, ?_, fun q => by exfalso; omega⟩
      rw [decide_eq_true (show ((0 : Nat) : Int) = 0 from rfl), Bool.true_or, yZ, decide_eq_false (by omega)]
    · by_cases h2 : 200 < k + 1
      · refine ⟨k + 1, ?_, fun q => by exfalso; omega⟩
        rw [decide_eq_true (show (200 : Int) < ((k + 1 : Nat) : Int) by omega), Bool.or_true, yZ, decide_eq_false (by omega)]
      · rw [decide_eq_false (show ¬ (l : Int) = 0 by omega), decide_eq_false (show ¬ (200 : Int) < ((k + 1 : Nat) : Int) by omega), Bool.or_self, xC]
        obtain ⟨m, rfl⟩ : ∃ m, l = m + 1 := ⟨l - 1, by omega⟩
        have el : IntKind.i64.wrap (((m + 1 : Nat) : Int) - 1) = (m : Int) := by rw [wrap_i64 (by omega) (by omega)]; omega
        obtain ⟨k', h3, h4⟩ := small_list (Fap n) m c.Kids (fun x hx k hk => small_R n x m k (by omega) hk (by omega) (oks x hx)) 0 (k + 1) (by omega)
        refine ⟨k', ?_, ?_⟩
        · unfold Fee
          simp only [yD, el]
          refine (loopO_runL (fun (i : Nat) (s : Int) => ((i : Int), s)) c.Kids (stS (Fap n) m) (fun s => some (true, s)) hlen ?_ ?_ ((k + 1 : Nat) : Int)).trans (h3.trans ?_)
          rotate_left 2
          · congr 2
            rw [decide_eq_decide]; omega
          · intro kk i s x hx
            have hi := (List.getElem?_eq_some_iff.1 hx).1
            simp only [stS]
            rw [wG hi, yZ, dL hx, zW, dG hi hlen]
            cases Fap n x m s with
            | none => rfl
            | some r => obtain ⟨b, s'⟩ := r; cases b <;> rfl
          · intro kk s
            simp only []
            rw [wF, xC]
        · intro q; rw [h4 (by omega)]; omega
theorem FU_gt {n:Nat}(h:n≤1000000):n<FU:=FU_big (by omega)
theorem small_eq (c:Cond)(ok:okC c): ∃k':Int,Fds c 20 0=some (decide (dN c≤20∧cN c≤200),k'):=by
  obtain ⟨k',h1,_⟩:=small_R FU c 20 0 (FU_gt (by decide)) (by decide) (by decide) ok
  refine ⟨k',?_⟩
  unfold Fds
  refine h1.trans ?_
  rw [Nat.zero_add]
end Go.Lf
namespace Go.Lf
open Go.OB
theorem okN_of {c:Cond}(ok:okC c):okN c:=⟨((okC_eq c).1 ok).1.2.1,((okC_eq c).1 ok).1.2.2.1⟩
theorem fEs_find (f:Cond→Int): ∀(l:List Cond) (i:Nat),cO (fun _ x=>if fE f x=0 then none else some (some (fE f x))) (some 0) l i=some (fEs f l)
  | [],_=>rfl
  | c :: l,i=>by
    rw [cO,fEs]
    by_cases h:fE f c=0
    · rw [if_pos h,if_pos h]; exact fEs_find f l (i+1)
    · rw [if_neg h,if_neg h]
theorem kid_ok {c x:Cond}{i:Nat}(ok:okC c)(hx:c.Kids[i]? =some x):okC x∧dN x<dN c∧cN x<cN c:=by
  have hm:=List.mem_of_getElem? hx
  have h1:=mem_dNs hm
  have h2:=mem_cNs hm
  exact ⟨(okCs_iff _).1 ((okC_eq c).1 ok).2.2 x hm,by rw [dN_eq c]; omega,by rw [cN_eq c]; omega⟩
theorem each1_R : ∀ (n : Nat) (c : Cond), dN c ≤ n → okC c → cN c ≤ 200 → Fa9 n c = some (fE ck1 c)
  | 0, c, h, _, _ => by have := dN_pos c; omega
  | n + 1, c, h, ok, hc => by
    have hlen := ((okC_eq c).1 ok).2.1
    have hl2 := len_cNs c.Kids
    have hcc := cN_eq c
    show Fco (Fa9 n) c = _
    unfold Fco
    rw [(ck_both c (okN_of ok) (by omega)).1, zW, fE_eq]
    simp only [yD, dF]
    by_cases e : ck1 c = 0
    · rw [if_pos e, decide_eq_false (by simpa using e), xC]
      unfold Fe9
      rw [wK c.Kids (fun _ x => if fE ck1 x = 0 then none else some (some (fE ck1 x))) (some 0) hlen ?_ ?_, fEs_find]
      · intro k i x hx hi
        obtain ⟨k1, k2, k3⟩ := kid_ok ok hx
        simp only [yD]
        rw [wG hi, yZ, dL hx, zW, each1_R n x (by omega) k1 (by omega), zW, dG hi hlen]
        by_cases z : fE ck1 x = 0
        · rw [if_pos z, decide_eq_false (by simpa using z), xC]
        · rw [if_neg z, decide_eq_true z, yZ]
      · intro k
        simp only [yD]
        rw [wF, xC]
    · rw [if_neg e, decide_eq_true e, yZ]
def ckC (c:Cond):Int:=if dN c≤20∧cN c≤200 then fE ck1 c else 3
theorem CheckCond_eq (c : Cond) (ok : okC c) : Fbt c = some (ckC c) := by
  unfold Fbt ckC
  obtain ⟨k', h⟩ := small_eq c ok
  rw [h, zW]
  simp only [yD]
  by_cases q : dN c ≤ 20 ∧ cN c ≤ 200
  · rw [if_pos q, decide_eq_true q, Bool.not_true, xC]
    unfold Fes
    rw [each1_R FU c (Nat.le_of_lt (FU_gt (by omega))) ok q.2]; rfl
  · rw [if_neg q, decide_eq_false q, Bool.not_false, yZ]
theorem ckC_good {c:Cond}(h:ckC c=0):dN c≤20∧cN c≤200∧fE ck1 c=0:=by
  unfold ckC at h
  split at h
  · rename_i q; exact ⟨q.1,q.2,h⟩
  · exact absurd h (by decide)
end Go.Lf
namespace Go.Lf
open Go.OB
section
variable {α:Type}
theorem find_ix (p : α → Bool) : ∀ (l : List α) (i : Nat), ∃ n : Int, cO (fun (i : Nat) x => if p x = true then some (some (i : Int)) else none) (some (-1)) l i = some n ∧
    ((n = -1 ∧ ∀ (j : Nat) x, l[j]? = some x → p x = false) ∨ ∃ j : Nat, n = ((i + j : Nat) : Int) ∧ (∃ x, l[j]? = some x ∧ p x = true) ∧ ∀ (m : Nat) y, m < j → l[m]? = some y → p y = false)
  | [], i => ⟨-1, rfl, .inl ⟨rfl, fun j x h => by simp at h⟩⟩
  | a :: l, i => by
    rw [cO]
    by_cases h : p a = true
    · rw [if_pos h]
      exact ⟨_, rfl, .inr ⟨0, by simp, ⟨a, rfl, h⟩, fun m y hm => by omega⟩⟩
    · rw [if_neg h]
      have hf : p a = false := by simpa using h
      obtain ⟨n, h1, h2⟩ := find_ix p l (i + 1)
      refine ⟨n, h1, ?_⟩
      rcases h2 with ⟨h2, h3⟩ | ⟨j, h2, h3, h4⟩
      · refine .inl ⟨h2, fun j x hx => ?_⟩
        cases j with
        | zero => simp at hx; subst hx; exact hf
        | succ j => exact h3 j x (by simpa using hx)
      · refine .inr ⟨j + 1, by rw [h2]; congr 1; omega, ?_, fun m y hm hy => ?_⟩
        · obtain ⟨x, q1, q2⟩ := h3; exact ⟨x, by simpa using q1, q2⟩
        · cases m with
          | zero => simp at hy; subst hy; exact hf
          | succ m => exact h4 m y (by omega) (by simpa using hy)
theorem any_iff (p:α→Bool)(l:List α):l.any p=true↔ ∃(j:Nat) (x:α),l[j]? =some x∧p x=true:=by
  rw [List.any_eq_true]
  constructor
  · rintro ⟨x,h,hp⟩; obtain ⟨j,hj⟩:=List.getElem?_of_mem h; exact ⟨j,x,hj,hp⟩
  · rintro ⟨j,x,h,hp⟩; exact ⟨x,List.mem_of_getElem? h,hp⟩
theorem ix_any {p : α → Bool} {l : List α} {n : Int} (h : (n = -1 ∧ ∀ (j : Nat) x, l[j]? = some x → p x = false) ∨ ∃ j : Nat, n = ((0 + j : Nat) : Int) ∧ (∃ x, l[j]? = some x ∧ p x = true) ∧ ∀ (m : Nat) y, m < j → l[m]? = some y → p y = false) : decide (0 ≤ n) = l.any p := by
  rw [Bool.eq_iff_iff, decide_eq_true_eq, any_iff]
  rcases h with ⟨rfl, h⟩ | ⟨j, rfl, ⟨x, h1, h2⟩, _⟩
  · constructor
    · intro h; omega
    · rintro ⟨j, x, h1, h2⟩; rw [h j x h1] at h2; cases h2
  · exact ⟨fun _ => ⟨j, x, h1, h2⟩, fun _ => by omega⟩
theorem sub_take (l:List α)(i:Nat)(hi:i≤l.length):sub' l 0 (i:Int)=some (l.take i):=by
  unfold sub'
  rw [if_pos ⟨by omega,by omega,by omega⟩]
  simp
end
theorem contS_eq (l : List Str) (c : Str) (hl : l.length ≤ 9223372036854775807) : Fax l c = some (l.any fun y => decide (c = y)) := by
  unfold Fax Fag
  simp only [yD, dF]
  unfold Fd3
  obtain ⟨n, h1, h2⟩ := find_ix (fun y => decide (c = y)) l 0
  rw [wK l (fun i x => if decide (c = x) = true then some (some (i : Int)) else none) (some (-1)) hl ?_ ?_, h1, zW, ix_any h2]
  · intro k i x hx hi
    simp only [yD]
    rw [wG hi, yZ, dL hx, zW, dG hi hl]
    cases decide (c = x) <;> rfl
  · intro k
    simp only [yD]
    rw [wF, xC]
def nmd (l:List bJ)(s:Str):Bool:=l.any fun y=>decide (y.Name=s)
theorem named_eq (s : Str) (r : Rules) (i : Nat) (hi : i ≤ r.Rules.length) (hl : r.Rules.length ≤ 9223372036854775807) : Fbs s r (i : Int) = some (nmd (r.Rules.take i) s) := by
  unfold Fbs
  rw [sub_take _ _ hi, zW]
  unfold Fc8 Fdv
  simp only [yD, dF]
  unfold Fev
  have hl2 : (r.Rules.take i).length ≤ 9223372036854775807 := by rw [List.length_take]; omega
  generalize r.Rules.take i = l at *
  obtain ⟨n, h1, h2⟩ := find_ix (fun y : bJ => decide (y.Name = s)) l 0
  rw [wK l (fun i x => if decide (x.Name = s) = true then some (some (i : Int)) else none) (some (-1)) hl2 ?_ ?_, h1, zW, ix_any h2]
  · rfl
  · intro k i x hx hi
    simp only [yD, Fdl]
    rw [wG hi, yZ, dL hx, zW, zW, dG hi hl2]
    cases decide (x.Name = s) <;> rfl
  · intro k
    simp only [yD]
    rw [wF, xC]
end Go.Lf
namespace Go.Lf
open Go.OB
def mv1 (c:Cond):Int:=if c.Kind=6∨c.Kind=7 then 2 else 0
theorem mv1_eq (c : Cond) : Fcu c = some (mv1 c) := by
  unfold Fcu mv1
  simp only [yD, iteB_or2, zW]
  by_cases h : c.Kind = 6 ∨ c.Kind = 7
  · have e : (decide (c.Kind = 6) || decide (c.Kind = 7)) = true := by rw [Bool.or_eq_true, decide_eq_true_eq, decide_eq_true_eq]; exact h
    rw [if_pos h, e, yZ]
  · have e : (decide (c.Kind = 6) || decide (c.Kind = 7)) = false := by rw [Bool.or_eq_false_iff, decide_eq_false_iff_not, decide_eq_false_iff_not]; exact not_or.1 h
    rw [if_neg h, e, xC]
theorem each2_R : ∀ (n : Nat) (c : Cond), dN c ≤ n → okC c → Fbp n c = some (fE mv1 c)
  | 0, c, h, _ => by have := dN_pos c; omega
  | n + 1, c, h, ok => by
    have hlen := ((okC_eq c).1 ok).2.1
    show Fcv (Fbp n) c = _
    unfold Fcv
    rw [mv1_eq, zW, fE_eq]
    simp only [yD, dF]
    by_cases e : mv1 c = 0
    · rw [if_pos e, decide_eq_false (by simpa using e), xC]
      unfold Ffu
      rw [wK c.Kids (fun _ x => if fE mv1 x = 0 then none else some (some (fE mv1 x))) (some 0) hlen ?_ ?_, fEs_find]
      · intro k i x hx hi
        obtain ⟨k1, k2, k3⟩ := kid_ok ok hx
        simp only [yD]
        rw [wG hi, yZ, dL hx, zW, each2_R n x (by omega) k1, zW, dG hi hlen]
        by_cases z : fE mv1 x = 0
        · rw [if_pos z, decide_eq_false (by simpa using z), xC]
        · rw [if_neg z, decide_eq_true z, yZ]
      · intro k
        simp only [yD]
        rw [wF, xC]
    · rw [if_neg e, decide_eq_true e, yZ]
mutual
def anyC (p:Cond→Bool):Cond→Bool
  | ⟨k,nm,ot,op,n,fr,ks⟩=>p ⟨k,nm,ot,op,n,fr,ks⟩ || anyCs p ks
def anyCs (p:Cond→Bool):List Cond→Bool
  | []=>false
  | c :: l=>anyC p c || anyCs p l
end
theorem anyC_eq (p:Cond→Bool)(c:Cond):anyC p c=(p c || anyCs p c.Kids):=by cases c; rfl
mutual
theorem fE_any (f:Cond→Int)(p:Cond→Bool)(e:Int)(h0:e≠0)(h: ∀c,f c=if p c=true then e else 0): ∀c,fE f c=if anyC p c=true then e else 0
  | ⟨k,nm,ot,op,n,fr,ks⟩=>by
    rw [fE,anyC,h]
    cases p ⟨k,nm,ot,op,n,fr,ks⟩ with
    | true=>simp [h0]
    | false=>simpa using fEs_any f p e h0 h ks
theorem fEs_any (f:Cond→Int)(p:Cond→Bool)(e:Int)(h0:e≠0)(h: ∀c,f c=if p c=true then e else 0): ∀l,fEs f l=if anyCs p l=true then e else 0
  | []=>rfl
  | c :: l=>by
    rw [fEs,anyCs,fE_any f p e h0 h c]
    cases anyC p c with
    | true=>simp [h0]
    | false=>simpa using fEs_any f p e h0 h l
end
def pMv (c:Cond):Bool:=decide (c.Kind=6) || decide (c.Kind=7)
theorem mv1_p (c:Cond):mv1 c=if pMv c=true then 2 else 0:=by
  unfold mv1 pMv
  simp only [Bool.or_eq_true,decide_eq_true_eq]
def mvE (r:Rules)(m:aF):Int:=
  if (r.Phases.any fun y=>decide (m.From=y))=true∧(r.Phases.any fun y=>decide (m.To=y))=true then
    if ckC m.When=0 then if anyC pMv m.When=true then 2 else 0 else ckC m.When
  else 4
theorem move_eq (r : Rules) (m : aF) (hl : r.Phases.length ≤ 9223372036854775807) (ok : okC m.When) : Fct r m = some (mvE r m) := by
  unfold Fct mvE
  simp only [yD, dF]
  unfold Fff
  rw [wK [m.From, m.To] (fun _ x => if (r.Phases.any fun y => decide (x = y)) = true then none else some (some 4)) (if ckC m.When = 0 then some (if anyC pMv m.When = true then 2 else 0) else some (ckC m.When)) (show (2 : Nat) ≤ _ by omega) ?_ ?_]
  · simp only [cO]
    cases (r.Phases.any fun y => decide (m.From = y)) <;> cases (r.Phases.any fun y => decide (m.To = y)) <;> simp <;> split <;> rfl
  · intro k i x hx hi
    simp only [yD]
    rw [wG hi, yZ, dL hx, zW, contS_eq _ _ hl, zW, dG hi (show (2 : Nat) ≤ _ by omega)]
    cases (r.Phases.any fun y => decide (x = y)) <;> rfl
  · intro k
    simp only [yD]
    rw [wF, xC, CheckCond_eq _ ok, zW]
    by_cases z : ckC m.When = 0
    · have g := ckC_good z
      rw [if_pos z, decide_eq_false (by simpa using z), xC]
      unfold Fel
      rw [each2_R FU m.When (Nat.le_of_lt (FU_gt (by omega))) ok, zW, fE_any mv1 pMv 2 (by decide) mv1_p]
    · rw [if_neg z, decide_eq_true z, yZ]
def pRl (r:Rules)(i:Nat)(c:Cond):Bool:=(decide (c.Kind=6) && !(r.Phases.any fun y=>decide (c.Name=y))) || (decide (c.Kind=7) && !nmd (r.Rules.take i) c.Name)
def rl1 (r:Rules)(i:Nat)(c:Cond):Int:=if pRl r i c=true then 4 else 0
theorem rl1_eq (r:Rules)(i:Nat)(c:Cond)(hp:r.Phases.length≤9223372036854775807)(hr:r.Rules.length≤9223372036854775807)(hi:i≤r.Rules.length):Fc0 c r (i:Int)=some (rl1 r i c):=by
  unfold Fc0 rl1 pRl
  rw [contS_eq _ _ hp,named_eq _ _ _ hi hr]
  simp only [yD,zW]
  generalize decide (c.Kind=6)=a
  generalize decide (c.Kind=7)=b
  generalize (r.Phases.any fun y=>decide (c.Name=y))=d
  generalize nmd (r.Rules.take i) c.Name=e
  cases a<;>cases b<;>cases d<;>cases e<;>rfl
theorem each3_R (r : Rules) (i : Nat) (hp : r.Phases.length ≤ 9223372036854775807) (hr : r.Rules.length ≤ 9223372036854775807) (hi : i ≤ r.Rules.length) : ∀ (n : Nat) (c : Cond), dN c ≤ n → okC c → Fbc n c r (i : Int) = some (fE (rl1 r i) c)
  | 0, c, h, _ => by have := dN_pos c; omega
  | n + 1, c, h, ok => by
    have hlen := ((okC_eq c).1 ok).2.1
    show Fcs (Fbc n) c r (i : Int) = _
    unfold Fcs
    rw [rl1_eq r i c hp hr hi, zW, fE_eq]
    simp only [yD, dF]
    by_cases e : rl1 r i c = 0
    · rw [if_pos e, decide_eq_false (by simpa using e), xC]
      unfold Fft
      rw [wK c.Kids (fun _ x => if fE (rl1 r i) x = 0 then none else some (some (fE (rl1 r i) x))) (some 0) hlen ?_ ?_, fEs_find]
      · intro k j x hx hj
        obtain ⟨k1, k2, k3⟩ := kid_ok ok hx
        simp only [yD]
        rw [wG hj, yZ, dL hx, zW, each3_R r i hp hr hi n x (by omega) k1, zW, dG hj hlen]
        by_cases z : fE (rl1 r i) x = 0
        · rw [if_pos z, decide_eq_false (by simpa using z), xC]
        · rw [if_neg z, decide_eq_true z, yZ]
      · intro k
        simp only [yD]
        rw [wF, xC]
    · rw [if_neg e, decide_eq_true e, yZ]
def rlE (r:Rules)(i:Nat)(x:bJ):Int:=
  if isNm x.Name=true then if nmd (r.Rules.take i) x.Name=true then 5 else if ckC x.When=0 then if anyC (pRl r i) x.When=true then 4 else 0 else ckC x.When else 8
theorem rule_eq (r : Rules) (i : Nat) (x : bJ) (hx : r.Rules[i]? = some x) (hp : r.Phases.length ≤ 9223372036854775807) (hr : r.Rules.length ≤ 9223372036854775807) (hn : okS x.Name) (ok : okC x.When) : Fcp r (i : Int) = some (rlE r i x) := by
  have hi : i ≤ r.Rules.length := Nat.le_of_lt (List.getElem?_eq_some_iff.1 hx).1
  unfold Fcp rlE
  rw [dL hx, zW, isName_eq _ hn, zW, named_eq _ _ _ hi hr, CheckCond_eq _ ok]
  simp only [yD, zW]
  cases isNm x.Name with
  | false => rfl
  | true =>
    cases nmd (r.Rules.take i) x.Name with
    | true => rfl
    | false =>
      simp only [Bool.not_true, xC, if_true, Bool.false_eq_true, if_false]
      by_cases z : ckC x.When = 0
      · have g := ckC_good z
        rw [if_pos z, decide_eq_false (by simpa using z), xC]
        unfold Feq
        rw [each3_R r i hp hr hi FU x.When (Nat.le_of_lt (FU_gt (by omega))) ok, zW, fE_any (rl1 r i) (pRl r i) 4 (by decide) (fun _ => rfl)]
      · rw [if_neg z, decide_eq_true z, yZ]
def okR (r:Rules):Prop:=okL okS r.Phases∧okL (fun m:aF=>okS m.From∧okS m.To∧okC m.When) r.Moves∧okL (fun x:bJ=>okS x.Name∧okC x.When) r.Rules
def phE (l:List Str)(i:Nat)(x:Str):Int:=if isNm x=true then if ((l.take i).any fun y=>decide (x=y))=true then 5 else 0 else 8
def chk (r:Rules):Option Int:=
  if (decide (20<(r.Phases.length:Int)) || decide (60<(r.Moves.length:Int))) || decide (60<(r.Rules.length:Int)) then some 3
  else cO (fun i x=>if phE r.Phases i x=0 then none else some (some (phE r.Phases i x))) (cO (fun _ m=>if mvE r m=0 then none else some (some (mvE r m))) (cO (fun i x=>if rlE r i x=0 then none else some (some (rlE r i x))) (some 0) r.Rules 0) r.Moves 0) r.Phases 0
theorem Check_eq (r : Rules) (ok : okR r) : Fa1 r = chk r := by
  obtain ⟨⟨p1, p2⟩, ⟨m1, m2⟩, ⟨r1, r2⟩⟩ := ok
  unfold Fa1 chk
  simp only [yD, dF, iteB_or2, zW]
  rw [iteB_ite]
  congr 1
  unfold Ffg
  refine wK r.Phases _ _ p1 (fun k i x hx hi => ?_) (fun k => ?_)
  · have hm := p2 x (List.mem_of_getElem? hx)
    simp only [yD]
    rw [wG hi, yZ, dL hx, zW, isName_eq _ hm, zW, sub_take _ _ (Nat.le_of_lt hi), zW, contS_eq _ _ (by rw [List.length_take]; omega), zW, dG hi p1]
    unfold phE
    cases isNm x <;> cases ((r.Phases.take i).any fun y => decide (x = y)) <;> rfl
  · simp only [yD]
    rw [wF, xC]
    unfold Feb
    refine wK r.Moves _ _ m1 (fun k i x hx hi => ?_) (fun k => ?_)
    · have hm := m2 x (List.mem_of_getElem? hx)
      simp only [yD]
      rw [wG hi, yZ, dL hx, zW, move_eq r x p1 hm.2.2, zW, dG hi m1]
      by_cases z : mvE r x = 0
      · rw [if_pos z, decide_eq_false (by simpa using z), xC]
      · rw [if_neg z, decide_eq_true z, yZ]
    · simp only [yD]
      rw [wF, xC]
      unfold Ff7
      refine wK r.Rules _ _ r1 (fun k i x hx hi => ?_) (fun k => ?_)
      · have hm := r2 x (List.mem_of_getElem? hx)
        simp only [yD]
        rw [wG hi, yZ, rule_eq r i x hx p1 r1 hm.1 hm.2, zW, dG hi r1]
        by_cases z : rlE r i x = 0
        · rw [if_pos z, decide_eq_false (by simpa using z), xC]
        · rw [if_neg z, decide_eq_true z, yZ]
      · simp only [yD]
        rw [wF, xC]
end Go.Lf
namespace Go.Lf
open Go.OB
theorem isNm_len {s:Str}(h:isNm s=true):s.length≤30:=by
  unfold isNm at h
  simp only [Bool.and_eq_true,decide_eq_true_eq] at h
  omega
structure Gd (c:Cond):Prop where
  k1:1≤c.Kind∧c.Kind≤15
  nm:c.Name.length≤30
  ot:c.Other.length≤30
  op:0≤c.Op∧c.Op≤6
  n: -1125899906842624≤c.N∧c.N≤1125899906842624
  fr:0≤c.Frames∧c.Frames≤4096
set_option maxHeartbeats 20000000 in
theorem gd_in (nm ot:Str)(op n fr:Int)(ks:List Cond)(k:Int)(hk2:k=1∨k=2∨k=3∨k=4∨k=5∨k=6∨k=7∨k=8∨k=9∨k=10∨k=11∨k=12∨k=13∨k=14∨k=15)(h1:okS nm)(h2:okS ot)(h:Fad ⟨k,nm,ot,op,n,fr,ks⟩=some 0):Gd ⟨k,nm,ot,op,n,fr,ks⟩:=by
  have q1:= @isNm_len nm
  have q2:= @isNm_len ot
  rcases hk2 with rfl | rfl | rfl | rfl | rfl | rfl | rfl | rfl | rfl | rfl | rfl | rfl | rfl | rfl | rfl<;>
    (unfold Fad at h
     simp only [rf1,rf2,rf3,rf4,rf5,rf6,rf7,rf8,rf9,rf10,rf11,rf12,rf13,rf14,rf15,zW,yD,Bool.not_true,Bool.not_false,yZ,xC,dF,out6,rIsName_eq _ h1,rIsName_eq _ h2,Int.reduceEq,Int.reduceLT,Int.reduceLE,decide_true,decide_false,Bool.or_self,iteB_or,iteB_or2,iteB_and] at h
     simp only [iteB_ite] at h
     constructor<;>grind)
theorem gd_of {c : Cond} (ok : okC c) (hk : c.Kids.length ≤ 200) (h : ck1 c = 0) : Gd c := by
  have e := (ck_both c (okN_of ok) hk).2
  rw [h] at e
  by_cases hb : 1 ≤ c.Kind ∧ c.Kind ≤ 15
  · have o := okN_of ok
    obtain ⟨k, nm, ot, op, n, fr, ks⟩ := c
    have hk2 : k = 1 ∨ k = 2 ∨ k = 3 ∨ k = 4 ∨ k = 5 ∨ k = 6 ∨ k = 7 ∨ k = 8 ∨ k = 9 ∨ k = 10 ∨ k = 11 ∨ k = 12 ∨ k = 13 ∨ k = 14 ∨ k = 15 := by have := hb.1; have := hb.2; simp only at *; omega
    exact gd_in nm ot op n fr ks k hk2 o.1 o.2 e
  · rw [(chk_no c hb).2] at e
    cases e
theorem fEs_mem {f : Cond → Int} : ∀ {l : List Cond}, fEs f l = 0 → ∀ x ∈ l, fE f x = 0
  | [], _, x, hx => by cases hx
  | a :: l, h, x, hx => by
    rw [fEs] at h
    split at h
    · rename_i q
      rcases List.mem_cons.1 hx with rfl | hx
      · exact q
      · exact fEs_mem h x hx
    · rename_i q; exact absurd h q
structure Gt (c:Cond):Prop where
  ok:okC c
  d:dN c≤20
  n:cN c≤200
  e:fE ck1 c=0
theorem gt_of {c:Cond}(ok:okC c)(h:ckC c=0):Gt c:=by
  obtain ⟨h1,h2,h3⟩:=ckC_good h
  exact ⟨ok,h1,h2,h3⟩
theorem Gt.self {c:Cond}(g:Gt c):Gd c:=by
  have h:=g.e
  rw [fE_eq] at h
  have h1:=len_cNs c.Kids
  have h2:=cN_eq c
  have h3:=g.n
  split at h
  · rename_i q; exact gd_of g.ok (by omega) q
  · rename_i q; exact absurd h q
theorem Gt.kid {c x:Cond}(g:Gt c)(hx:x ∈ c.Kids):Gt x:=by
  obtain ⟨j,hj⟩:=List.getElem?_of_mem hx
  obtain ⟨k1,k2,k3⟩:=kid_ok g.ok hj
  have h1:=g.d
  have h2:=g.n
  refine ⟨k1,by omega,by omega,?_⟩
  have h:=g.e
  rw [fE_eq] at h
  split at h
  · exact fEs_mem h x hx
  · rename_i q; exact absurd h q
theorem Gt.kids {c:Cond}(g:Gt c):c.Kids.length≤200:=by
  have h1:=len_cNs c.Kids
  have h2:=cN_eq c
  have h3:=g.n
  omega
end Go.Lf
namespace Go.Lf
open Go.OB
theorem take_snoc {α:Type}{l:List α}{i:Nat}{x:α}(hx:l[i]? =some x):l.take (i+1)=l.take i++ [x]:=by
  rw [List.take_add_one,hx]; rfl
structure Gr' (r:Rules):Prop where
  p:r.Phases.length≤20
  m:r.Moves.length≤60
  l:r.Rules.length≤60
  pn: ∀x ∈ r.Phases,x.length≤30
  pd: ∀(i:Nat) x,r.Phases[i]? =some x→x ∉ r.Phases.take i
  mg: ∀x ∈ r.Moves,Gt x.When∧x.From.length≤30∧x.To.length≤30
  lg: ∀x ∈ r.Rules,Gt x.When∧x.Name.length≤30
theorem aN {α : Type} (e : Nat → α → Int) (fin : Option Int) : ∀ (l : List α) (i : Nat), cO (fun i x => if e i x = 0 then none else some (some (e i x))) fin l i = some 0 → fin = some 0 ∧ ∀ (j : Nat) x, l[j]? = some x → e (i + j) x = 0
  | [], i, h => ⟨h, fun j x hx => by simp at hx⟩
  | a :: l, i, h => by
    rw [cO] at h
    by_cases z : e i a = 0
    · rw [if_pos z] at h
      obtain ⟨h1, h2⟩ := aN e fin l (i + 1) h
      refine ⟨h1, fun j x hx => ?_⟩
      cases j with
      | zero => simp at hx; subst hx; simpa using z
      | succ j => have := h2 j x (by simpa using hx); rwa [show i + (j + 1) = i + 1 + j by omega]
    · rw [if_neg z] at h
      exact absurd (Option.some.inj h) z
theorem chk_good {r : Rules} (ok : okR r) (h : chk r = some 0) : Gr' r := by
  unfold chk at h
  split at h
  · exact absurd (Option.some.inj h) (by decide)
  · rename_i q
    simp only [Bool.or_eq_true, decide_eq_true_eq, not_or] at q
    obtain ⟨h1, h2⟩ := aN (phE r.Phases) _ _ _ h
    obtain ⟨h3, h4⟩ := aN (fun _ => mvE r) _ _ _ h1
    obtain ⟨h5, h6⟩ := aN (rlE r) _ _ _ h3
    have ph : ∀ (i : Nat) x, r.Phases[i]? = some x → isNm x = true ∧ x ∉ r.Phases.take i := by
      intro i x hx
      have := h2 i x hx
      rw [Nat.zero_add] at this
      unfold phE at this
      split at this
      · rename_i a
        refine ⟨a, ?_⟩
        split at this
        · exact absurd this (by decide)
        · rename_i b
          intro hm
          exact b (List.any_eq_true.2 ⟨x, hm, by simp⟩)
      · exact absurd this (by decide)
    have pn : ∀ x ∈ r.Phases, x.length ≤ 30 := by
      intro x hx
      obtain ⟨j, hj⟩ := List.getElem?_of_mem hx
      exact isNm_len (ph j x hj).1
    refine ⟨by omega, by omega, by omega, pn, fun i x hx => (ph i x hx).2, ?_, ?_⟩
    · intro x hx
      obtain ⟨j, hj⟩ := List.getElem?_of_mem hx
      have := h4 j x hj
      unfold mvE at this
      split at this
      · rename_i a
        split at this
        · rename_i b
          obtain ⟨y, y1, y2⟩ := List.any_eq_true.1 a.1
          obtain ⟨z, z1, z2⟩ := List.any_eq_true.1 a.2
          refine ⟨gt_of (ok.2.1.2 x hx).2.2 b, ?_, ?_⟩
          · rw [of_decide_eq_true y2]; exact pn y y1
          · rw [of_decide_eq_true z2]; exact pn z z1
        · rename_i b; exact absurd this b
      · exact absurd this (by decide)
    · intro x hx
      obtain ⟨j, hj⟩ := List.getElem?_of_mem hx
      have := h6 j x hj
      unfold rlE at this
      split at this
      · rename_i a
        split at this
        · exact absurd this (by decide)
        · split at this
          · rename_i b; exact ⟨gt_of (ok.2.2.2 x hx).2 b, isNm_len a⟩
          · rename_i b; exact absurd this b
      · exact absurd this (by decide)
theorem chk_some (r:Rules): ∃e,chk r=some e:=by
  have key: ∀{α:Type} (e:Nat→α→Int) (fin:Option Int) (_: ∃z,fin=some z) (l:List α) (i:Nat),∃z,cO (fun i x=>if e i x=0 then none else some (some (e i x))) fin l i=some z:=by
    intro α e fin hf l
    induction l with
    | nil=>intro i; exact hf
    | cons a l ih=>
      intro i
      rw [cO]
      by_cases z:e i a=0
      · rw [if_pos z]; exact ih (i+1)
      · rw [if_neg z]; exact ⟨_,rfl⟩
  unfold chk
  split
  · exact ⟨_,rfl⟩
  · exact key (phE r.Phases) _ (key (fun _=>mvE r) _ (key (rlE r) _ ⟨0,rfl⟩ _ _) _ _) _ _
end Go.Lf
namespace Go.Lf
open Go.OB
theorem app1 (p q:List Int)(h:p.length+q.length≤140737488355328):app' 1 p q=some (p++q):=by
  unfold app'
  rw [if_pos ⟨by rw [Go.OB.maxLen_eq]; omega,by omega⟩]
theorem AppendUint_ex (p:List Int)(n:Int)(hn:0≤n∧n≤18446744073709551615)(h:p.length+20≤140737488355328): ∃q,Fce p n 10=some q∧q.length≤p.length+20:=by
  unfold Fce
  rw [if_pos ⟨rfl,hn.1,hn.2,h⟩]
  refine ⟨_,rfl,?_⟩
  rw [List.length_append,nums_len,Lib.decDigits_length]
  have:=Lib.nDigits_le20 n.toNat (by omega)
  omega
theorem u64_rng (n:Int):0≤IntKind.u64.wrap n∧IntKind.u64.wrap n≤18446744073709551615:=by
  rw [IntKind.wrap_u64]; omega
theorem AppendInt_ex (p : List Int) (n : Int) (h : p.length + 21 ≤ 140737488355328) : ∃ q, Fcc p n 10 = some q ∧ q.length ≤ p.length + 21 := by
  have e : ∃ q, Fcw p n 10 = some q ∧ q.length ≤ p.length + 21 := by
    unfold Fcw
    simp only [yD, wI]
    by_cases c : n < 0
    · have ha := app1 p [45] (by simp; omega)
      rw [if_pos c, ha, zW, zW]
      obtain ⟨q, h1, h2⟩ := AppendUint_ex (p ++ [45]) (IntKind.u64.wrap (-IntKind.u64.wrap n)) (u64_rng _) (by simp; omega)
      simp only []
      rw [h1, zW]
      exact ⟨q, rfl, by simp at h2; omega⟩
    · rw [if_neg c, zW]
      obtain ⟨q, h1, h2⟩ := AppendUint_ex p (IntKind.u64.wrap n) (u64_rng _) (by omega)
      simp only []
      rw [h1, zW]
      exact ⟨q, rfl, by omega⟩
  obtain ⟨q, h1, h2⟩ := e
  unfold Fcc
  rw [h1, zW]
  exact ⟨q, rfl, h2⟩
def Gr (r:Option gK)(n:Nat):Prop:= ∃q,r=some q∧q.out.length≤n
theorem Gr.bind {a:Option gK}{k:gK→Option gK}{n m:Nat}(h:Gr a n)(hk: ∀q,q.out.length≤n→Gr (k q) m):Gr (gG a k) m:=by
  obtain ⟨q,h1,h2⟩:=h
  rw [h1,zW]; exact hk q h2
theorem Gr.get {r:Option gK}{n:Nat}(h:Gr r n): ∃q,r=Option.some q∧q.out.length≤n:=h
theorem Gr.some {q:gK}{n:Nat}(h:q.out.length≤n):Gr (Option.some q) n:=⟨q,rfl,h⟩
theorem ink_Int (p:gK)(n:Int){b:Nat}(hp:p.out.length≤b)(h:b≤100000000000000):Gr (Fai p n) (b+22):=by
  obtain ⟨q,h1,h2⟩:=AppendInt_ex p.out n (by omega)
  unfold Fai
  rw [h1,zW]
  simp only [yD]
  rw [app1 q [32] (by simp; omega),zW]
  exact Gr.some (by simp; omega)
theorem ink_Ints (p : gK) (l : List Int) {b : Nat} (hp : p.out.length ≤ b) (h : b + 22 + 22 * l.length ≤ 100000000000000) : Gr (Fb8 p l) (b + 22 + 22 * l.length) := by
  unfold Fb8
  simp only [yD]
  refine (ink_Int p _ hp (by omega)).bind fun q hq => ?_
  unfold Ffa
  refine jA (fun (i : Nat) (s : List Int) => ((i : Int), s)) l (fun i s => s.length ≤ b + 22 + 22 * i) (fun (r : gK) => r.out.length ≤ b + 22 + 22 * l.length) (by omega) ?_ ?_ _ (by simpa using hq)
  · intro kk i s x hx hi hI
    obtain ⟨r, h1, h2⟩ := ink_Int (gK.mk s) x hI (by omega)
    refine ⟨r.out, by omega, ?_⟩
    simp only [yD]
    rw [wG hi, yZ, dL hx, zW, h1, zW, dG hi (by omega)]
  · intro kk s hI
    simp only [yD]
    rw [wF, xC]
    exact ⟨_, rfl, hI⟩
theorem ink_Text (p:gK)(s:Str){b:Nat}(hp:p.out.length≤b)(h:b+22+s.length≤100000000000000):Gr (Fb3 p s) (b+22+s.length):=by
  unfold Fb3
  simp only [yD]
  refine (ink_Int p _ hp (by omega)).bind fun q hq=>?_
  rw [app1 q.out (nums s) (by rw [nums_len]; omega),zW]
  exact Gr.some (by simp [nums_len]; omega)
theorem ink_Texts (p : gK) (l : List Str) {b : Nat} (hs : ∀ s ∈ l, s.length ≤ 30) (hp : p.out.length ≤ b) (h : b + 22 + 52 * l.length ≤ 100000000000000) : Gr (Fci p l) (b + 22 + 52 * l.length) := by
  unfold Fci
  simp only [yD]
  refine (ink_Int p _ hp (by omega)).bind fun q hq => ?_
  unfold Fex
  refine jA (fun (i : Nat) (s : List Int) => ((i : Int), s)) l (fun i s => s.length ≤ b + 22 + 52 * i) (fun (r : gK) => r.out.length ≤ b + 22 + 52 * l.length) (by omega) ?_ ?_ _ (by simpa using hq)
  · intro kk i s x hx hi hI
    have hxl := hs x (List.mem_of_getElem? hx)
    obtain ⟨r, h1, h2⟩ := ink_Text (gK.mk s) x hI (by omega)
    refine ⟨r.out, by omega, ?_⟩
    simp only [yD]
    rw [wG hi, yZ, dL hx, zW, h1, zW, dG hi (by omega)]
  · intro kk s hI
    simp only [yD]
    rw [wF, xC]
    exact ⟨_, rfl, hI⟩
set_option maxRecDepth 1000000 in
theorem reads_true:Fa6=some true:=by kernel_rfl
end Go.Lf
