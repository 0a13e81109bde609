/- Walks: what each function computes, for every argument; no condition but those that stand in the statements. -/
import Derived.Test.YthllgjnlmjpinaaGreatDoorDNa
namespace Go.Lf
open Go.OB
def okN (c:Cond):Prop:=okS c.Name∧okS c.Other
theorem len_k (n : Nat) (k : Int) : (!(decide (k ≤ (n : Int)) && decide ((n : Int) ≤ k))) = decide ((n : Int) ≠ k) := by
 by_cases h : (n : Int) = k;simp [h];by_cases h1 : k ≤ (n : Int);by_cases h2 : (n : Int) ≤ k;omega;simp [h, h1, h2];simp [h, h1]
theorem len_2 {n:Nat}(hn:n≤200):(!(decide (2≤(n:Int)) && decide ((n:Int)≤200)))=decide ((n:Int)<2):=by
 rw [Bool.eq_iff_iff];simp only [Bool.not_eq_true',Bool.and_eq_false_iff,decide_eq_false_iff_not,decide_eq_true_eq];omega
section
variable (nm ot:Str) (op n fr:Int) (ks:List Cond)
theorem fo1:Faa 1=some (⟨false,false,false,false,false,0,0⟩,true):=rfl
theorem fo2:Faa 2=some (⟨false,false,false,false,false,0,0⟩,true):=rfl
theorem fo3:Faa 3=some (⟨true,false,true,true,false,0,0⟩,true):=rfl
theorem fo4:Faa 4=some (⟨true,true,true,false,false,0,0⟩,true):=rfl
theorem fo5:Faa 5=some (⟨true,false,false,true,true,0,0⟩,true):=rfl
theorem fo6:Faa 6=some (⟨true,false,false,false,false,0,0⟩,true):=rfl
theorem fo7:Faa 7=some (⟨true,false,false,false,false,0,0⟩,true):=rfl
theorem fo8:Faa 8=some (⟨false,false,false,false,false,1,1⟩,true):=rfl
theorem fo9:Faa 9=some (⟨false,false,false,false,false,2,200⟩,true):=rfl
theorem fo10:Faa 10=some (⟨false,false,false,false,false,2,200⟩,true):=rfl
theorem fo11:Faa 11=some (⟨false,false,false,false,true,1,1⟩,true):=rfl
theorem fo12:Faa 12=some (⟨false,false,false,false,true,1,1⟩,true):=rfl
theorem fo13:Faa 13=some (⟨false,false,false,true,true,1,1⟩,true):=rfl
theorem fo14:Faa 14=some (⟨false,false,false,false,false,2,2⟩,true):=rfl
theorem fo15:Faa 15=some (⟨false,false,false,false,false,1,1⟩,true):=rfl
set_option maxHeartbeats 20000000 in
theorem chk_in (k:Int)(hk2:k=1∨k=2∨k=3∨k=4∨k=5∨k=6∨k=7∨k=8∨k=9∨k=10∨k=11∨k=12∨k=13∨k=14∨k=15)(h1:okS nm)(h2:okS ot)(hk:ks.length≤200): ∃r,Fab ⟨k,nm,ot,op,n,fr,ks⟩=some r:=by
  rcases hk2 with rfl | rfl | rfl | rfl | rfl | rfl | rfl | rfl | rfl | rfl | rfl | rfl | rfl | rfl | rfl<;>
    (unfold Fab
     simp only [fo1,fo2,fo3,fo4,fo5,fo6,fo7,fo8,fo9,fo10,fo11,fo12,fo13,fo14,fo15,zI,zM,Bool.not_true,Bool.not_false,yF,yE,xX,aCk,kH _ h1,kH _ h2,Int.reduceEq,Int.reduceLT,Int.reduceLE,decide_true,decide_false,Bool.or_self,aFx,aY,rE]
     simp only [len_k,len_2 hk]
     simp only [bU]
     repeat' (first | exact ⟨_,rfl⟩ | split))
end
theorem aRe (c:Cond)(h: ¬(1≤c.Kind∧c.Kind≤15)):Fab c=some 7:=by
 have e: ∀k:Int,1≤k→k≤15→decide (c.Kind=k)=false:=fun k h1 h2=>decide_eq_false (by omega);unfold Fab Faa;simp only [zM,e 1 (by decide) (by decide),e 2 (by decide) (by decide),e 3 (by decide) (by decide),e 4 (by decide) (by decide),e 5 (by decide) (by decide),e 6 (by decide) (by decide),e 7 (by decide) (by decide),e 8 (by decide) (by decide),e 9 (by decide) (by decide),e 10 (by decide) (by decide),e 11 (by decide) (by decide),e 12 (by decide) (by decide),e 13 (by decide) (by decide),e 14 (by decide) (by decide),e 15 (by decide) (by decide),yE,zI,Bool.not_false,yF]
def ck1 (c:Cond):Int:=(Fab c).getD 0
theorem aMd (c : Cond) (h : okN c) (hk : c.Kids.length ≤ 200) : Fab c = some (ck1 c) ∧ Fab c = some (ck1 c) := by
  have key : ∃ r, Fab c = some r := by
    by_cases hb : 1 ≤ c.Kind ∧ c.Kind ≤ 15
    · obtain ⟨k, nm, ot, op, n, fr, ks⟩ := c
      have hk2 : k = 1 ∨ k = 2 ∨ k = 3 ∨ k = 4 ∨ k = 5 ∨ k = 6 ∨ k = 7 ∨ k = 8 ∨ k = 9 ∨ k = 10 ∨ k = 11 ∨ k = 12 ∨ k = 13 ∨ k = 14 ∨ k = 15 := by have := hb.1; have := hb.2; simp only at *; omega
      exact chk_in nm ot op n fr ks k hk2 h.1 h.2 hk
    · exact ⟨_, aRe c hb⟩
  obtain ⟨r, h2⟩ := key
  have e : ck1 c = r := by unfold ck1; rw [h2]; rfl
  rw [e]
  exact ⟨h2, h2⟩
end Go.Lf
namespace Go.Lf
open Go.OB
mutual
def cN:Cond→Nat
  | ⟨_,_,_,_,_,_,ks⟩=>1+cNs ks
def cNs:List Cond→Nat
  | []=>0
  | c :: l=>cN c+cNs l
end
mutual
def dN:Cond→Nat
  | ⟨_,_,_,_,_,_,ks⟩=>1+dNs ks
def dNs:List Cond→Nat
  | []=>0
  | c :: l=>max (dN c) (dNs l)
end
mutual
def okC:Cond→Prop
  | ⟨k,nm,ot,op,n,fr,ks⟩=>(i64 k∧okS nm∧okS ot∧i64 op∧i64 n∧i64 fr)∧ks.length≤9223372036854775807∧okCs ks
def okCs:List Cond→Prop
  | []=>True
  | c :: l=>okC c∧okCs l
end
mutual
def fE (f:Cond→Int):Cond→Int
  | ⟨k,nm,ot,op,n,fr,ks⟩=>if f ⟨k,nm,ot,op,n,fr,ks⟩=0 then fEs f ks else f ⟨k,nm,ot,op,n,fr,ks⟩
def fEs (f:Cond→Int):List Cond→Int
  | []=>0
  | c :: l=>if fE f c=0 then fEs f l else fE f c
end
theorem aBh (c:Cond):cN c=1+cNs c.Kids:=by cases c; rfl
theorem dN_eq (c:Cond):dN c=1+dNs c.Kids:=by cases c; rfl
theorem aJq (f:Cond→Int)(c:Cond):fE f c=if f c=0 then fEs f c.Kids else f c:=by cases c; rfl
theorem sF (c:Cond):okC c↔(i64 c.Kind∧okS c.Name∧okS c.Other∧i64 c.Op∧i64 c.N∧i64 c.Frames)∧c.Kids.length≤9223372036854775807∧okCs c.Kids:=by cases c; rfl
theorem aCi: ∀(l:List Cond),okCs l↔ ∀c ∈ l,okC c
  | []=>by simp [okCs]
  | c :: l=>by rw [okCs,aCi l]; simp
theorem cN_pos (c:Cond):1≤cN c:=by rw [aBh]; omega
theorem aDw (c:Cond):1≤dN c:=by rw [dN_eq]; omega
theorem aBl: ∀l:List Cond,l.length≤cNs l
  | []=>Nat.le_refl _
  | c :: l=>by have:=aBl l; have:=cN_pos c; rw [cNs,List.length_cons]; omega
theorem aTr {c:Cond}: ∀{l:List Cond},c ∈ l→cN c≤cNs l
  | a :: l,h=>by
    rw [cNs]
    rcases List.mem_cons.1 h with rfl | h
    · omega
    · have:=aTr h; omega
theorem aUt {c:Cond}: ∀{l:List Cond},c ∈ l→dN c≤dNs l
  | a :: l,h=>by
    rw [dNs]
    rcases List.mem_cons.1 h with rfl | h
    · omega
    · have:=aUt h; omega
def stS (rf:Cond→Int→Int→Option (Bool×Int))(l:Int):Nat→Cond→Int→Int ⊕ Option (Bool×Int):=fun _ x s=>match rf x l s with
  | none=> .inr none
  | some (true,s')=> .inl s'
  | some (false,s')=> .inr (some (false,s'))
theorem aIi (rf : Cond → Int → Int → Option (Bool × Int)) (l : Nat) :
    ∀ (ks : List Cond) (_ : ∀ c ∈ ks, ∀ k : Nat, k ≤ 200 → ∃ k' : Nat, rf c (l : Int) (k : Int) = some (decide (dN c ≤ l ∧ k + cN c ≤ 200), (k' : Int)) ∧ (dN c ≤ l ∧ k + cN c ≤ 200 → k' = k + cN c)) (i k : Nat), k ≤ 200 → ∃ k' : Nat, aBe (stS rf l) (fun s => some (true, s)) ks i (k : Int) = some (decide (dNs ks ≤ l ∧ k + cNs ks ≤ 200), (k' : Int)) ∧ (dNs ks ≤ l ∧ k + cNs ks ≤ 200 → k' = k + cNs ks)
  | [], _, i, k, hk => ⟨k, by simp [aBe, dNs, cNs, hk], fun _ => by simp [cNs]⟩
  | c :: ks, hr, i, k, hk => by
    obtain ⟨k1, h1, h2⟩ := hr c List.mem_cons_self k hk
    rw [aBe]
    simp only [stS, h1]
    by_cases hc : dN c ≤ l ∧ k + cN c ≤ 200
    · obtain rfl := h2 hc
      obtain ⟨k2, h3, h4⟩ := aIi rf l ks (fun c hc => hr c (List.mem_cons_of_mem _ hc)) (i + 1) (k + cN c) hc.2
      rw [decide_eq_true hc]
      refine ⟨k2, ?_, ?_⟩
      · simp only []
        rw [h3]
        congr 2
        rw [decide_eq_decide, dNs, cNs]
        have := hc.1
        omega
      · rw [dNs, cNs]; intro h; rw [h4 (by omega)]; omega
    · rw [decide_eq_false hc]
      refine ⟨k1, ?_, ?_⟩
      · simp only []
        congr 2
        refine (decide_eq_false ?_).symm
        rw [dNs, cNs]; omega
      · rw [dNs, cNs]; intro h; exfalso; omega
theorem aTy : ∀ (n : Nat) (c : Cond) (l k : Nat), l < n → k ≤ 200 → l ≤ 1000 → okC c → ∃ k' : Nat, Fau n c (l : Int) (k : Int) = some (decide (dN c ≤ l ∧ k + cN c ≤ 200), (k' : Int)) ∧ (dN c ≤ l ∧ k + cN c ≤ 200 → k' = k + cN c)
  | 0, _, _, _, h, _, _, _ => by omega
  | n + 1, c, l, k, h, hk, hl, ok => by
    have hlen := ((sF c).1 ok).2.1
    have oks := (aCi _).1 ((sF c).1 ok).2.2
    have ew : IntKind.i64.wrap ((k : Int) + 1) = ((k + 1 : Nat) : Int) := eH (n := 1000) (by omega) (by omega)
    show ∃ k' : Nat, Fdn (Fau n) c (l : Int) (k : Int) = _ ∧ _
    unfold Fdn
    simp only [zM, xX, aY, zI, ew]
    have hd := dN_eq c
    have hc := aBh c
    by_cases h0 : l = 0
    · subst h0
      refine ⟨k + 1, ?_, fun q => by exfalso; omega⟩
      rw [decide_eq_true (show ((0 : Nat) : Int) = 0 from rfl), Bool.true_or, yF, decide_eq_false (by omega)]
    · by_cases h2 : 200 < k + 1
      · refine ⟨k + 1, ?_, fun q => by exfalso; omega⟩
        rw [decide_eq_true (show (200 : Int) < ((k + 1 : Nat) : Int) by omega), Bool.or_true, yF, decide_eq_false (by omega)]
      · rw [decide_eq_false (show ¬ (l : Int) = 0 by omega), decide_eq_false (show ¬ (200 : Int) < ((k + 1 : Nat) : Int) by omega), Bool.or_self, yE]
        obtain ⟨m, rfl⟩ : ∃ m, l = m + 1 := ⟨l - 1, by omega⟩
        have el : IntKind.i64.wrap (((m + 1 : Nat) : Int) - 1) = (m : Int) := by rw [wrap_i64 (by omega) (by omega)]; omega
        obtain ⟨k', h3, h4⟩ := aIi (Fau n) m c.Kids (fun x hx k hk => aTy n x m k (by omega) hk (by omega) (oks x hx)) 0 (k + 1) (by omega)
        refine ⟨k', ?_, ?_⟩
        · unfold Fgk
          simp only [zM, el]
          refine (nM (fun (i : Nat) (s : Int) => ((i : Int), s)) c.Kids (stS (Fau n) m) (fun s => some (true, s)) hlen ?_ ?_ ((k + 1 : Nat) : Int)).trans (h3.trans ?_)
          rotate_left 2
          · congr 2
            rw [decide_eq_decide]; omega
          · intro kk i s x hx
            have hi := (List.getElem?_eq_some_iff.1 hx).1
            simp only [stS]
            rw [xE hi, yF, xQ hx, zI, eH hi hlen]
            cases Fau n x m s with
            | none => rfl
            | some r => obtain ⟨b, s'⟩ := r; cases b <;> rfl
          · intro kk s
            simp only []
            rw [xH, yE]
        · intro q; rw [h4 (by omega)]; omega
theorem aJg {n:Nat}(h:n≤1000000):n<FU:=vJ (by omega)
theorem small_eq (c:Cond)(ok:okC c): ∃k':Int,Fes c 20 0=some (decide (dN c≤20∧cN c≤200),k'):=by
 obtain ⟨k',h1,_⟩:=aTy FU c 20 0 (aJg (by decide)) (by decide) (by decide) ok;refine ⟨k',?_⟩;unfold Fes;refine h1.trans ?_;rw [Nat.zero_add]
end Go.Lf
namespace Go.Lf
open Go.OB
theorem aGm {c:Cond}(ok:okC c):okN c:=⟨((sF c).1 ok).1.2.1,((sF c).1 ok).1.2.2.1⟩
theorem aDe (f:Cond→Int): ∀(l:List Cond) (i:Nat),dC (fun _ x=>if fE f x=0 then none else some (some (fE f x))) (some 0) l i=some (fEs f l)
  | [],_=>rfl
  | c :: l,i=>by
    rw [dC,fEs]
    by_cases h:fE f c=0
    · rw [if_pos h,if_pos h]; exact aDe f l (i+1)
    · rw [if_neg h,if_neg h]
theorem aAs {c x:Cond}{i:Nat}(ok:okC c)(hx:c.Kids[i]? =some x):okC x∧dN x<dN c∧cN x<cN c:=by
 have hm:=List.mem_of_getElem? hx;have h1:=aUt hm;have h2:=aTr hm;exact ⟨(aCi _).1 ((sF c).1 ok).2.2 x hm,by rw [dN_eq c]; omega,by rw [aBh c]; omega⟩
theorem aSx : ∀ (n : Nat) (c : Cond), dN c ≤ n → okC c → cN c ≤ 200 → Fbz n c = some (fE ck1 c)
  | 0, c, h, _, _ => by have := aDw c; omega
  | n + 1, c, h, ok, hc => by
    have hlen := ((sF c).1 ok).2.1
    have hl2 := aBl c.Kids
    have hcc := aBh c
    show Fdg (Fbz n) c = _
    unfold Fdg
    rw [(aMd c (aGm ok) (by omega)).1, zI, aJq]
    simp only [zM, xX]
    by_cases e : ck1 c = 0
    · rw [if_pos e, decide_eq_false (by simpa using e), yE]
      unfold Ff1
      rw [xU c.Kids (fun _ x => if fE ck1 x = 0 then none else some (some (fE ck1 x))) (some 0) hlen ?_ ?_, aDe]
      · intro k i x hx hi
        obtain ⟨k1, k2, k3⟩ := aAs ok hx
        simp only [zM]
        rw [xE hi, yF, xQ hx, zI, aSx n x (by omega) k1 (by omega), zI, eH hi hlen]
        by_cases z : fE ck1 x = 0
        · rw [if_pos z, decide_eq_false (by simpa using z), yE]
        · rw [if_neg z, decide_eq_true z, yF]
      · intro k
        simp only [zM]
        rw [xH, yE]
    · rw [if_neg e, decide_eq_true e, yF]
def ckC (c:Cond):Int:=if dN c≤20∧cN c≤200 then fE ck1 c else 3
theorem aBp (c : Cond) (ok : okC c) : Fb1 c = some (ckC c) := by
 unfold Fb1 ckC;obtain ⟨k', h⟩ := small_eq c ok;rw [h, zI];simp only [zM];by_cases q : dN c ≤ 20 ∧ cN c ≤ 200;rw [if_pos q, decide_eq_true q, Bool.not_true, yE];unfold Ff3;rw [aSx FU c (Nat.le_of_lt (aJg (by omega))) ok q.2]; rfl;rw [if_neg q, decide_eq_false q, Bool.not_false, yF]
theorem aHk {c:Cond}(h:ckC c=0):dN c≤20∧cN c≤200∧fE ck1 c=0:=by
 unfold ckC at h;split at h;rename_i q; exact ⟨q.1,q.2,h⟩;exact absurd h (by decide)
end Go.Lf
namespace Go.Lf
open Go.OB
section
variable {α:Type}
theorem aFe (p : α → Bool) : ∀ (l : List α) (i : Nat), ∃ n : Int, dC (fun (i : Nat) x => if p x = true then some (some (i : Int)) else none) (some (-1)) l i = some n ∧
    ((n = -1 ∧ ∀ (j : Nat) x, l[j]? = some x → p x = false) ∨ ∃ j : Nat, n = ((i + j : Nat) : Int) ∧ (∃ x, l[j]? = some x ∧ p x = true) ∧ ∀ (m : Nat) y, m < j → l[m]? = some y → p y = false)
  | [], i => ⟨-1, rfl, .inl ⟨rfl, fun j x h => by simp at h⟩⟩
  | a :: l, i => by
    rw [dC]
    by_cases h : p a = true
    · rw [if_pos h]
      exact ⟨_, rfl, .inr ⟨0, by simp, ⟨a, rfl, h⟩, fun m y hm => by omega⟩⟩
    · rw [if_neg h]
      have hf : p a = false := by simpa using h
      obtain ⟨n, h1, h2⟩ := aFe p l (i + 1)
      refine ⟨n, h1, ?_⟩
      rcases h2 with ⟨h2, h3⟩ | ⟨j, h2, h3, h4⟩
      · refine .inl ⟨h2, fun j x hx => ?_⟩
        cases j with
        | zero => simp at hx; subst hx; exact hf
        | succ j => exact h3 j x (by simpa using hx)
      · refine .inr ⟨j + 1, by rw [h2]; congr 1; omega, ?_, fun m y hm hy => ?_⟩
        · obtain ⟨x, q1, q2⟩ := h3; exact ⟨x, by simpa using q1, q2⟩
        · cases m with
          | zero => simp at hy; subst hy; exact hf
          | succ m => exact h4 m y (by omega) (by simpa using hy)
theorem any_iff (p:α→Bool)(l:List α):l.any p=true↔ ∃(j:Nat) (x:α),l[j]? =some x∧p x=true:=by
 rw [List.any_eq_true];constructor;rintro ⟨x,h,hp⟩; obtain ⟨j,hj⟩:=List.getElem?_of_mem h; exact ⟨j,x,hj,hp⟩;rintro ⟨j,x,h,hp⟩; exact ⟨x,List.mem_of_getElem? h,hp⟩
theorem ix_any {p : α → Bool} {l : List α} {n : Int} (h : (n = -1 ∧ ∀ (j : Nat) x, l[j]? = some x → p x = false) ∨ ∃ j : Nat, n = ((0 + j : Nat) : Int) ∧ (∃ x, l[j]? = some x ∧ p x = true) ∧ ∀ (m : Nat) y, m < j → l[m]? = some y → p y = false) : decide (0 ≤ n) = l.any p := by
  rw [Bool.eq_iff_iff, decide_eq_true_eq, any_iff]
  rcases h with ⟨rfl, h⟩ | ⟨j, rfl, ⟨x, h1, h2⟩, _⟩
  · constructor
    · intro h; omega
    · rintro ⟨j, x, h1, h2⟩; rw [h j x h1] at h2; cases h2
  · exact ⟨fun _ => ⟨j, x, h1, h2⟩, fun _ => by omega⟩
theorem aNi (l:List α)(i:Nat)(hi:i≤l.length):sub' l 0 (i:Int)=some (l.take i):=by
 unfold sub';rw [if_pos ⟨by omega,by omega,by omega⟩];simp
end
theorem aEc (l : List Str) (c : Str) (hl : l.length ≤ 9223372036854775807) : Fag l c = some (l.any fun y => decide (c = y)) := by
 unfold Fag Fad;simp only [zM, xX];unfold Fda;obtain ⟨n, h1, h2⟩ := aFe (fun y => decide (c = y)) l 0;rw [xU l (fun i x => if decide (c = x) = true then some (some (i : Int)) else none) (some (-1)) hl ?_ ?_, h1, zI, ix_any h2];intro k i x hx hi;simp only [zM];rw [xE hi, yF, xQ hx, zI, eH hi hl];cases decide (c = x) <;> rfl;intro k;simp only [zM];rw [xH, yE]
def nmd (l:List kE)(s:Str):Bool:=l.any fun y=>decide (y.Name=s)
theorem aNl (s : Str) (r : Rules) (i : Nat) (hi : i ≤ r.Rules.length) (hl : r.Rules.length ≤ 9223372036854775807) : Fb5 s r (i : Int) = some (nmd (r.Rules.take i) s) := by
 unfold Fb5;rw [aNi _ _ hi, zI];unfold Fec Fed;simp only [zM, xX];unfold Fg4;have hl2 : (r.Rules.take i).length ≤ 9223372036854775807 := by rw [List.length_take]; omega
 generalize r.Rules.take i = l at *;obtain ⟨n, h1, h2⟩ := aFe (fun y : kE => decide (y.Name = s)) l 0;rw [xU l (fun i x => if decide (x.Name = s) = true then some (some (i : Int)) else none) (some (-1)) hl2 ?_ ?_, h1, zI, ix_any h2];rfl;intro k i x hx hi;simp only [zM, Ffq];rw [xE hi, yF, xQ hx, zI, zI, eH hi hl2];cases decide (x.Name = s) <;> rfl;intro k;simp only [zM];rw [xH, yE]
end Go.Lf
namespace Go.Lf
open Go.OB
def mv1 (c:Cond):Int:=if c.Kind=6∨c.Kind=7 then 2 else 0
theorem mv1_eq (c : Cond) : Fcx c = some (mv1 c) := by
 unfold Fcx mv1;simp only [zM, aY, zI];by_cases h : c.Kind = 6 ∨ c.Kind = 7;have e : (decide (c.Kind = 6) || decide (c.Kind = 7)) = true := by rw [Bool.or_eq_true, decide_eq_true_eq, decide_eq_true_eq]; exact h
 rw [if_pos h, e, yF];have e : (decide (c.Kind = 6) || decide (c.Kind = 7)) = false := by rw [Bool.or_eq_false_iff, decide_eq_false_iff_not, decide_eq_false_iff_not]; exact not_or.1 h
 rw [if_neg h, e, yE]
theorem aTp : ∀ (n : Nat) (c : Cond), dN c ≤ n → okC c → Fb9 n c = some (fE mv1 c)
  | 0, c, h, _ => by have := aDw c; omega
  | n + 1, c, h, ok => by
    have hlen := ((sF c).1 ok).2.1
    show Fc6 (Fb9 n) c = _
    unfold Fc6
    rw [mv1_eq, zI, aJq]
    simp only [zM, xX]
    by_cases e : mv1 c = 0
    · rw [if_pos e, decide_eq_false (by simpa using e), yE]
      unfold Fgv
      rw [xU c.Kids (fun _ x => if fE mv1 x = 0 then none else some (some (fE mv1 x))) (some 0) hlen ?_ ?_, aDe]
      · intro k i x hx hi
        obtain ⟨k1, k2, k3⟩ := aAs ok hx
        simp only [zM]
        rw [xE hi, yF, xQ hx, zI, aTp n x (by omega) k1, zI, eH hi hlen]
        by_cases z : fE mv1 x = 0
        · rw [if_pos z, decide_eq_false (by simpa using z), yE]
        · rw [if_neg z, decide_eq_true z, yF]
      · intro k
        simp only [zM]
        rw [xH, yE]
    · rw [if_neg e, decide_eq_true e, yF]
mutual
def aAv (p:Cond→Bool):Cond→Bool
  | ⟨k,nm,ot,op,n,fr,ks⟩=>p ⟨k,nm,ot,op,n,fr,ks⟩ || aHp p ks
def aHp (p:Cond→Bool):List Cond→Bool
  | []=>false
  | c :: l=>aAv p c || aHp p l
end
theorem aTv (p:Cond→Bool)(c:Cond):aAv p c=(p c || aHp p c.Kids):=by cases c; rfl
mutual
theorem aSf (f:Cond→Int)(p:Cond→Bool)(e:Int)(h0:e≠0)(h: ∀c,f c=if p c=true then e else 0): ∀c,fE f c=if aAv p c=true then e else 0
  | ⟨k,nm,ot,op,n,fr,ks⟩=>by
    rw [fE,aAv,h]
    cases p ⟨k,nm,ot,op,n,fr,ks⟩ with
    | true=>simp [h0]
    | false=>simpa using aUq f p e h0 h ks
theorem aUq (f:Cond→Int)(p:Cond→Bool)(e:Int)(h0:e≠0)(h: ∀c,f c=if p c=true then e else 0): ∀l,fEs f l=if aHp p l=true then e else 0
  | []=>rfl
  | c :: l=>by
    rw [fEs,aHp,aSf f p e h0 h c]
    cases aAv p c with
    | true=>simp [h0]
    | false=>simpa using aUq f p e h0 h l
end
def pMv (c:Cond):Bool:=decide (c.Kind=6) || decide (c.Kind=7)
theorem mv1_p (c:Cond):mv1 c=if pMv c=true then 2 else 0:=by
 unfold mv1 pMv;simp only [Bool.or_eq_true,decide_eq_true_eq]
def mvE (r:Rules)(m:pK):Int:=
  if (r.Phases.any fun y=>decide (m.From=y))=true∧(r.Phases.any fun y=>decide (m.To=y))=true then
    if ckC m.When=0 then if aAv pMv m.When=true then 2 else 0 else ckC m.When
  else 4
theorem move_eq (r : Rules) (m : pK) (hl : r.Phases.length ≤ 9223372036854775807) (ok : okC m.When) : Fct r m = some (mvE r m) := by
 unfold Fct mvE;simp only [zM, xX];unfold Fg6;rw [xU [m.From, m.To] (fun _ x => if (r.Phases.any fun y => decide (x = y)) = true then none else some (some 4)) (if ckC m.When = 0 then some (if aAv pMv m.When = true then 2 else 0) else some (ckC m.When)) (show (2 : Nat) ≤ _ by omega) ?_ ?_];simp only [dC];cases (r.Phases.any fun y => decide (m.From = y)) <;> cases (r.Phases.any fun y => decide (m.To = y)) <;> simp <;> split <;> rfl;intro k i x hx hi;simp only [zM];rw [xE hi, yF, xQ hx, zI, aEc _ _ hl, zI, eH hi (show (2 : Nat) ≤ _ by omega)];cases (r.Phases.any fun y => decide (x = y)) <;> rfl;intro k;simp only [zM];rw [xH, yE, aBp _ ok, zI];by_cases z : ckC m.When = 0;have g := aHk z;rw [if_pos z, decide_eq_false (by simpa using z), yE];unfold Ff7;rw [aTp FU m.When (Nat.le_of_lt (aJg (by omega))) ok, zI, aSf mv1 pMv 2 (by decide) mv1_p];rw [if_neg z, decide_eq_true z, yF]
def pRl (r:Rules)(i:Nat)(c:Cond):Bool:=(decide (c.Kind=6) && !(r.Phases.any fun y=>decide (c.Name=y))) || (decide (c.Kind=7) && !nmd (r.Rules.take i) c.Name)
def rl1 (r:Rules)(i:Nat)(c:Cond):Int:=if pRl r i c=true then 4 else 0
theorem rl1_eq (r:Rules)(i:Nat)(c:Cond)(hp:r.Phases.length≤9223372036854775807)(hr:r.Rules.length≤9223372036854775807)(hi:i≤r.Rules.length):Fd6 c r (i:Int)=some (rl1 r i c):=by
 unfold Fd6 rl1 pRl;rw [aEc _ _ hp,aNl _ _ _ hi hr];simp only [zM,zI];generalize decide (c.Kind=6)=a;generalize decide (c.Kind=7)=b;generalize (r.Phases.any fun y=>decide (c.Name=y))=d;generalize nmd (r.Rules.take i) c.Name=e;cases a<;>cases b<;>cases d<;>cases e<;>rfl
theorem aTb (r : Rules) (i : Nat) (hp : r.Phases.length ≤ 9223372036854775807) (hr : r.Rules.length ≤ 9223372036854775807) (hi : i ≤ r.Rules.length) : ∀ (n : Nat) (c : Cond), dN c ≤ n → okC c → Fbu n c r (i : Int) = some (fE (rl1 r i) c)
  | 0, c, h, _ => by have := aDw c; omega
  | n + 1, c, h, ok => by
    have hlen := ((sF c).1 ok).2.1
    show Fcd (Fbu n) c r (i : Int) = _
    unfold Fcd
    rw [rl1_eq r i c hp hr hi, zI, aJq]
    simp only [zM, xX]
    by_cases e : rl1 r i c = 0
    · rw [if_pos e, decide_eq_false (by simpa using e), yE]
      unfold Fg3
      rw [xU c.Kids (fun _ x => if fE (rl1 r i) x = 0 then none else some (some (fE (rl1 r i) x))) (some 0) hlen ?_ ?_, aDe]
      · intro k j x hx hj
        obtain ⟨k1, k2, k3⟩ := aAs ok hx
        simp only [zM]
        rw [xE hj, yF, xQ hx, zI, aTb r i hp hr hi n x (by omega) k1, zI, eH hj hlen]
        by_cases z : fE (rl1 r i) x = 0
        · rw [if_pos z, decide_eq_false (by simpa using z), yE]
        · rw [if_neg z, decide_eq_true z, yF]
      · intro k
        simp only [zM]
        rw [xH, yE]
    · rw [if_neg e, decide_eq_true e, yF]
def rlE (r:Rules)(i:Nat)(x:kE):Int:=
  if kQ x.Name=true then if nmd (r.Rules.take i) x.Name=true then 5 else if ckC x.When=0 then if aAv (pRl r i) x.When=true then 4 else 0 else ckC x.When else 8
theorem rule_eq (r : Rules) (i : Nat) (x : kE) (hx : r.Rules[i]? = some x) (hp : r.Phases.length ≤ 9223372036854775807) (hr : r.Rules.length ≤ 9223372036854775807) (hn : okS x.Name) (ok : okC x.When) : Fco r (i : Int) = some (rlE r i x) := by
  have hi : i ≤ r.Rules.length := Nat.le_of_lt (List.getElem?_eq_some_iff.1 hx).1
  unfold Fco rlE
  rw [xQ hx, zI, kH _ hn, zI, aNl _ _ _ hi hr, aBp _ ok]
  simp only [zM, zI]
  cases kQ x.Name with
  | false => rfl
  | true =>
    cases nmd (r.Rules.take i) x.Name with
    | true => rfl
    | false =>
      simp only [Bool.not_true, yE, if_true, Bool.false_eq_true, if_false]
      by_cases z : ckC x.When = 0
      · have g := aHk z
        rw [if_pos z, decide_eq_false (by simpa using z), yE]
        unfold Ffw
        rw [aTb r i hp hr hi FU x.When (Nat.le_of_lt (aJg (by omega))) ok, zI, aSf (rl1 r i) (pRl r i) 4 (by decide) (fun _ => rfl)]
      · rw [if_neg z, decide_eq_true z, yF]
def okR (r:Rules):Prop:=okL okS r.Phases∧okL (fun m:pK=>okS m.From∧okS m.To∧okC m.When) r.Moves∧okL (fun x:kE=>okS x.Name∧okC x.When) r.Rules
def phE (l:List Str)(i:Nat)(x:Str):Int:=if kQ x=true then if ((l.take i).any fun y=>decide (x=y))=true then 5 else 0 else 8
def chk (r:Rules):Option Int:=
  if (decide (20<(r.Phases.length:Int)) || decide (60<(r.Moves.length:Int))) || decide (60<(r.Rules.length:Int)) then some 3
  else dC (fun i x=>if phE r.Phases i x=0 then none else some (some (phE r.Phases i x))) (dC (fun _ m=>if mvE r m=0 then none else some (some (mvE r m))) (dC (fun i x=>if rlE r i x=0 then none else some (some (rlE r i x))) (some 0) r.Rules 0) r.Moves 0) r.Phases 0
theorem aBm (r : Rules) (ok : okR r) : Fbi r = chk r := by
 obtain ⟨⟨p1, p2⟩, ⟨m1, m2⟩, ⟨r1, r2⟩⟩ := ok;unfold Fbi chk;simp only [zM, xX, aY, zI];rw [bU];congr 1;unfold Fgu;refine xU r.Phases _ _ p1 (fun k i x hx hi => ?_) (fun k => ?_);have hm := p2 x (List.mem_of_getElem? hx);simp only [zM];rw [xE hi, yF, xQ hx, zI, kH _ hm, zI, aNi _ _ (Nat.le_of_lt hi), zI, aEc _ _ (by rw [List.length_take]; omega), zI, eH hi p1];unfold phE;cases kQ x <;> cases ((r.Phases.take i).any fun y => decide (x = y)) <;> rfl;simp only [zM];rw [xH, yE];unfold Ffz;refine xU r.Moves _ _ m1 (fun k i x hx hi => ?_) (fun k => ?_);have hm := m2 x (List.mem_of_getElem? hx);simp only [zM];rw [xE hi, yF, xQ hx, zI, move_eq r x p1 hm.2.2, zI, eH hi m1];by_cases z : mvE r x = 0;rw [if_pos z, decide_eq_false (by simpa using z), yE];rw [if_neg z, decide_eq_true z, yF];simp only [zM];rw [xH, yE];unfold Ff8;refine xU r.Rules _ _ r1 (fun k i x hx hi => ?_) (fun k => ?_);have hm := r2 x (List.mem_of_getElem? hx);simp only [zM];rw [xE hi, yF, rule_eq r i x hx p1 r1 hm.1 hm.2, zI, eH hi r1];by_cases z : rlE r i x = 0;rw [if_pos z, decide_eq_false (by simpa using z), yE];rw [if_neg z, decide_eq_true z, yF];simp only [zM];rw [xH, yE]
end Go.Lf
namespace Go.Lf
open Go.OB
theorem qK {s:Str}(h:kQ s=true):s.length≤30:=by
 unfold kQ at h;simp only [Bool.and_eq_true,decide_eq_true_eq] at h;omega
structure Gd (c:Cond):Prop where
  k1:1≤c.Kind∧c.Kind≤15
  nm:c.Name.length≤30
  ot:c.Other.length≤30
  op:0≤c.Op∧c.Op≤6
  n: -1125899906842624≤c.N∧c.N≤1125899906842624
  fr:0≤c.Frames∧c.Frames≤4096
set_option maxHeartbeats 20000000 in
theorem gd_in (nm ot:Str)(op n fr:Int)(ks:List Cond)(k:Int)(hk2:k=1∨k=2∨k=3∨k=4∨k=5∨k=6∨k=7∨k=8∨k=9∨k=10∨k=11∨k=12∨k=13∨k=14∨k=15)(h1:okS nm)(h2:okS ot)(hk:ks.length≤200)(h:Fab ⟨k,nm,ot,op,n,fr,ks⟩=some 0):Gd ⟨k,nm,ot,op,n,fr,ks⟩:=by
  have q1:= @qK nm
  have q2:= @qK ot
  rcases hk2 with rfl | rfl | rfl | rfl | rfl | rfl | rfl | rfl | rfl | rfl | rfl | rfl | rfl | rfl | rfl<;>
    (unfold Fab at h
     simp only [fo1,fo2,fo3,fo4,fo5,fo6,fo7,fo8,fo9,fo10,fo11,fo12,fo13,fo14,fo15,zI,zM,Bool.not_true,Bool.not_false,yF,yE,xX,aCk,kH _ h1,kH _ h2,len_k,len_2 hk,Int.reduceEq,Int.reduceLT,Int.reduceLE,decide_true,decide_false,Bool.or_self,aFx,aY,rE] at h
     simp only [bU] at h
     constructor<;>grind)
theorem gd_of {c : Cond} (ok : okC c) (hk : c.Kids.length ≤ 200) (h : ck1 c = 0) : Gd c := by
 have e := (aMd c (aGm ok) hk).2;rw [h] at e;by_cases hb : 1 ≤ c.Kind ∧ c.Kind ≤ 15;have o := aGm ok;obtain ⟨k, nm, ot, op, n, fr, ks⟩ := c;have hk2 : k = 1 ∨ k = 2 ∨ k = 3 ∨ k = 4 ∨ k = 5 ∨ k = 6 ∨ k = 7 ∨ k = 8 ∨ k = 9 ∨ k = 10 ∨ k = 11 ∨ k = 12 ∨ k = 13 ∨ k = 14 ∨ k = 15 := by have := hb.1; have := hb.2; simp only at *; omega
 exact gd_in nm ot op n fr ks k hk2 o.1 o.2 hk e;rw [aRe c hb] at e;cases e
theorem aUd {f : Cond → Int} : ∀ {l : List Cond}, fEs f l = 0 → ∀ x ∈ l, fE f x = 0
  | [], _, x, hx => by cases hx
  | a :: l, h, x, hx => by
    rw [fEs] at h
    split at h
    · rename_i q
      rcases List.mem_cons.1 hx with rfl | hx
      · exact q
      · exact aUd h x hx
    · rename_i q; exact absurd h q
structure Gt (c:Cond):Prop where
  ok:okC c
  d:dN c≤20
  n:cN c≤200
  e:fE ck1 c=0
theorem gt_of {c:Cond}(ok:okC c)(h:ckC c=0):Gt c:=by
 obtain ⟨h1,h2,h3⟩:=aHk h;exact ⟨ok,h1,h2,h3⟩
theorem Gt.self {c:Cond}(g:Gt c):Gd c:=by
 have h:=g.e;rw [aJq] at h;have h1:=aBl c.Kids;have h2:=aBh c;have h3:=g.n;split at h;rename_i q; exact gd_of g.ok (by omega) q;rename_i q; exact absurd h q
theorem Gt.kid {c x:Cond}(g:Gt c)(hx:x ∈ c.Kids):Gt x:=by
 obtain ⟨j,hj⟩:=List.getElem?_of_mem hx;obtain ⟨k1,k2,k3⟩:=aAs g.ok hj;have h1:=g.d;have h2:=g.n;refine ⟨k1,by omega,by omega,?_⟩;have h:=g.e;rw [aJq] at h;split at h;exact aUd h x hx;rename_i q; exact absurd h q
theorem Gt.kids {c:Cond}(g:Gt c):c.Kids.length≤200:=by
 have h1:=aBl c.Kids;have h2:=aBh c;have h3:=g.n;omega
end Go.Lf
namespace Go.Lf
open Go.OB
theorem appN {α:Type}(b:Nat)(p q:List α)(h:p.length+q.length≤1000)(hb:b≤1000):app' b p q=some (p++q):=by
 unfold app';have:=Nat.mul_le_mul h hb;rw [if_pos ⟨by rw [maxLen_eq]; omega,by omega⟩]
theorem take_snoc {α:Type}{l:List α}{i:Nat}{x:α}(hx:l[i]? =some x):l.take (i+1)=l.take i++ [x]:=by
 rw [List.take_add_one,hx]; rfl
structure Gr' (r:Rules):Prop where
  p:r.Phases.length≤20
  m:r.Moves.length≤60
  l:r.Rules.length≤60
  pn: ∀x ∈ r.Phases,x.length≤30
  pd: ∀(i:Nat) x,r.Phases[i]? =some x→x ∉ r.Phases.take i
  mg: ∀x ∈ r.Moves,Gt x.When∧x.From.length≤30∧x.To.length≤30
  lg: ∀x ∈ r.Rules,Gt x.When∧x.Name.length≤30
theorem aX {α : Type} (e : Nat → α → Int) (fin : Option Int) : ∀ (l : List α) (i : Nat), dC (fun i x => if e i x = 0 then none else some (some (e i x))) fin l i = some 0 → fin = some 0 ∧ ∀ (j : Nat) x, l[j]? = some x → e (i + j) x = 0
  | [], i, h => ⟨h, fun j x hx => by simp at hx⟩
  | a :: l, i, h => by
    rw [dC] at h
    by_cases z : e i a = 0
    · rw [if_pos z] at h
      obtain ⟨h1, h2⟩ := aX e fin l (i + 1) h
      refine ⟨h1, fun j x hx => ?_⟩
      cases j with
      | zero => simp at hx; subst hx; simpa using z
      | succ j => have := h2 j x (by simpa using hx); rwa [show i + (j + 1) = i + 1 + j by omega]
    · rw [if_neg z] at h
      exact absurd (Option.some.inj h) z
theorem pF {r : Rules} (ok : okR r) (h : chk r = some 0) : Gr' r := by
  unfold chk at h
  split at h
  · exact absurd (Option.some.inj h) (by decide)
  · rename_i q
    simp only [Bool.or_eq_true, decide_eq_true_eq, not_or] at q
    obtain ⟨h1, h2⟩ := aX (phE r.Phases) _ _ _ h
    obtain ⟨h3, h4⟩ := aX (fun _ => mvE r) _ _ _ h1
    obtain ⟨h5, h6⟩ := aX (rlE r) _ _ _ h3
    have ph : ∀ (i : Nat) x, r.Phases[i]? = some x → kQ x = true ∧ x ∉ r.Phases.take i := by
      intro i x hx
      have := h2 i x hx
      rw [Nat.zero_add] at this
      unfold phE at this
      split at this
      · rename_i a
        refine ⟨a, ?_⟩
        split at this
        · exact absurd this (by decide)
        · rename_i b
          intro hm
          exact b (List.any_eq_true.2 ⟨x, hm, by simp⟩)
      · exact absurd this (by decide)
    have pn : ∀ x ∈ r.Phases, x.length ≤ 30 := by
      intro x hx
      obtain ⟨j, hj⟩ := List.getElem?_of_mem hx
      exact qK (ph j x hj).1
    refine ⟨by omega, by omega, by omega, pn, fun i x hx => (ph i x hx).2, ?_, ?_⟩
    · intro x hx
      obtain ⟨j, hj⟩ := List.getElem?_of_mem hx
      have := h4 j x hj
      unfold mvE at this
      split at this
      · rename_i a
        split at this
        · rename_i b
          obtain ⟨y, y1, y2⟩ := List.any_eq_true.1 a.1
          obtain ⟨z, z1, z2⟩ := List.any_eq_true.1 a.2
          refine ⟨gt_of (ok.2.1.2 x hx).2.2 b, ?_, ?_⟩
          · rw [of_decide_eq_true y2]; exact pn y y1
          · rw [of_decide_eq_true z2]; exact pn z z1
        · rename_i b; exact absurd this b
      · exact absurd this (by decide)
    · intro x hx
      obtain ⟨j, hj⟩ := List.getElem?_of_mem hx
      have := h6 j x hj
      unfold rlE at this
      split at this
      · rename_i a
        split at this
        · exact absurd this (by decide)
        · split at this
          · rename_i b; exact ⟨gt_of (ok.2.2.2 x hx).2 b, qK a⟩
          · rename_i b; exact absurd this b
      · exact absurd this (by decide)
theorem aHx (r:Rules): ∃e,chk r=some e:=by
  have key: ∀{α:Type} (e:Nat→α→Int) (fin:Option Int) (_: ∃z,fin=some z) (l:List α) (i:Nat),∃z,dC (fun i x=>if e i x=0 then none else some (some (e i x))) fin l i=some z:=by
    intro α e fin hf l
    induction l with
    | nil=>intro i; exact hf
    | cons a l ih=>
      intro i
      rw [dC]
      by_cases z:e i a=0
      · rw [if_pos z]; exact ih (i+1)
      · rw [if_neg z]; exact ⟨_,rfl⟩
  unfold chk
  split
  · exact ⟨_,rfl⟩
  · exact key (phE r.Phases) _ (key (fun _=>mvE r) _ (key (rlE r) _ ⟨0,rfl⟩ _ _) _ _) _ _
end Go.Lf
