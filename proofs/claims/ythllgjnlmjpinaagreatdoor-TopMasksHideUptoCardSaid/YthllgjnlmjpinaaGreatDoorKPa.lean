/- Walks: what each function computes, for every argument; no condition but those that stand in the statements. -/
import Derived.Test.YthllgjnlmjpinaaGreatDoorSPa
import Derived.Test.YthllgjnlmjpinaaGreatDoorPLb
namespace Go.Lf
open Go.OB
structure Gk (c:Cond):Prop where
  z:c.Kind≤7→c.Kids.length=0
  o:(c.Kind=8∨c.Kind=11∨c.Kind=12∨c.Kind=13∨c.Kind=15)→c.Kids.length=1
  t:c.Kind=14→c.Kids.length=2
  g:(c.Kind=9∨c.Kind=10)→2≤c.Kids.length
  fr:(c.Kind=5∨c.Kind=11∨c.Kind=12∨c.Kind=13)→1≤c.Frames
  cn:c.Kind=13→1≤c.N∧c.N≤c.Frames
  st:c.Kind=5→0≤c.N
  op:(c.Kind=3∨c.Kind=4)→1≤c.Op
set_option maxHeartbeats 20000000 in
theorem gk_in (nm ot:Str)(op n fr:Int)(ks:List Cond)(k:Int)(hk2:k=1∨k=2∨k=3∨k=4∨k=5∨k=6∨k=7∨k=8∨k=9∨k=10∨k=11∨k=12∨k=13∨k=14∨k=15)(h1:okS nm)(h2:okS ot)(hk:ks.length≤200)(h:Fab ⟨k,nm,ot,op,n,fr,ks⟩=some 0):Gk ⟨k,nm,ot,op,n,fr,ks⟩:=by
  rcases hk2 with rfl | rfl | rfl | rfl | rfl | rfl | rfl | rfl | rfl | rfl | rfl | rfl | rfl | rfl | rfl<;>
    (unfold Fab at h
     simp only [fo1,fo2,fo3,fo4,fo5,fo6,fo7,fo8,fo9,fo10,fo11,fo12,fo13,fo14,fo15,zI,zM,Bool.not_true,Bool.not_false,yF,yE,xX,aCk,kH _ h1,kH _ h2,len_k,len_2 hk,Int.reduceEq,Int.reduceLT,Int.reduceLE,decide_true,decide_false,Bool.or_self,aFx,aY,rE] at h
     simp only [bU] at h
     constructor<;>grind)
theorem gk_of {c : Cond} (ok : okC c) (hk : c.Kids.length ≤ 200) (h : ck1 c = 0) : Gk c := by
  have e := (aMd c (aGm ok) hk).2
  rw [h] at e
  by_cases hb : 1 ≤ c.Kind ∧ c.Kind ≤ 15
  · have o := aGm ok
    obtain ⟨k, nm, ot, op, n, fr, ks⟩ := c
    have hk2 : k = 1 ∨ k = 2 ∨ k = 3 ∨ k = 4 ∨ k = 5 ∨ k = 6 ∨ k = 7 ∨ k = 8 ∨ k = 9 ∨ k = 10 ∨ k = 11 ∨ k = 12 ∨ k = 13 ∨ k = 14 ∨ k = 15 := by have := hb.1; have := hb.2; simp only at *; omega
    exact gk_in nm ot op n fr ks k hk2 o.1 o.2 hk e
  · rw [aRe c hb] at e
    cases e
theorem Gt.gk {c:Cond}(g:Gt c):Gk c:=by
  have h:=g.e
  rw [aJq] at h
  have h1:=aBl c.Kids
  have h2:=aBh c
  have h3:=g.n
  split at h
  · rename_i q; exact gk_of g.ok (by omega) q
  · rename_i q; exact absurd h q
end Go.Lf
namespace Go.Lf
open Go.OB
def nm1 (c:Cond):List Str:=if c.Kind=3∨c.Kind=5 then [c.Name] else if c.Kind=4 then [c.Name,c.Other] else []
mutual
def jW:Cond→List Str
  | ⟨k,nm,ot,op,n,fr,ks⟩=>nm1 ⟨k,nm,ot,op,n,fr,ks⟩++uU ks
def uU:List Cond→List Str
  | []=>[]
  | c :: l=>jW c++uU l
end
theorem aCf (c:Cond):jW c=nm1 c++uU c.Kids:=by cases c; rfl
theorem aTc (c:Cond):(nm1 c).length≤2:=by unfold nm1; split<;>(try split)<;>simp
mutual
theorem mM: ∀c,(jW c).length≤2 * cN c
  | ⟨k,nm,ot,op,n,fr,ks⟩=>by
    have h:=aJn ks
    have h1:=aTc ⟨k,nm,ot,op,n,fr,ks⟩
    rw [aCf,List.length_append,aBh]
    show _+(uU ks).length≤2 * (1+cNs ks)
    omega
theorem aJn: ∀l,(uU l).length≤2 * cNs l
  | []=>by simp [uU]
  | c :: l=>by
    have h:=mM c
    have h1:=aJn l
    rw [uU,List.length_append,cNs]; omega
end
theorem aPr {α:Type}(p q:List α)(h:p.length+q.length≤8000000000000):app' 16 p q=some (p++q):=by
  unfold app'
  rw [if_pos ⟨by rw [maxLen_eq]; omega,by omega⟩]
theorem nm_step (c : Cond) (l : List Str) (h : l.length ≤ 7000000000000) : Fcj c l = some (0, l ++ nm1 c) := by
  unfold Fcj nm1
  simp only [zM, wB, zI]
  by_cases h3 : c.Kind = 3
  · simp only [h3, if_pos, true_or, decide_true, zI, yF]
    rw [aPr l _ (by simp; omega), zI, zI]
  · by_cases h5 : c.Kind = 5
    · simp only [h5, show ¬ ((5 : Int) = 3) by decide, if_neg, if_pos, or_true, decide_true, zI, yF, if_false]
      rw [aPr l _ (by simp; omega), zI, zI]
    · simp only [h3, h5, if_neg, decide_false, zI, yE, false_or, or_self, if_false]
      by_cases h4 : c.Kind = 4
      · simp only [h4, if_pos]
        rw [aPr l _ (by simp; omega), zI, zI]
      · simp only [h4, if_neg, if_false, zI, List.append_nil, not_false_eq_true]
theorem aUa: ∀(n:Nat) (c:Cond) (l:List Str),dN c≤n→okC c→l.length+2 * cN c≤7000000000000→Fbe n c l=some (0,l++jW c)
  | 0,c,_,h,_,_=>by have:=aDw c; omega
  | n+1,c,l,h,ok,hc=>by
    have hlen:=((sF c).1 ok).2.1
    have hcc:=aBh c
    have h1:=aTc c
    show Fc8 (Fbe n) c l=_
    unfold Fc8
    rw [nm_step c l (by omega),zI]
    simp only [zM,xX]
    rw [decide_eq_false (by simp),yE]
    unfold Fgp
    have key: ∀(B:(Int×List Str→Option (Int×List Str))→Int×List Str→Option (Int×List Str)) (_: ∀k (i:Int) (s:List Str),B k (i,s)=gK (decide (i<(c.Kids.length:Int))) fun x=>gU x (gG (at' c.Kids i) fun x422=>gG (Fbe n x422 s) fun p=>gK (decide (p.1≠0)) fun x450=>gU x450 (some (p.1,p.2)) (gK (IntKind.i64.wrap (i+1)) fun x454=>k (x454,p.2))) (some (0,s)))
        (d i:Nat) (s:List Str) (fu:Nat),i+d=c.Kids.length→d<fu→s.length+2 * cNs (c.Kids.drop i)≤7000000000000→fK B fu ((i:Int),s)=some (0,s++uU (c.Kids.drop i)):=by
      intro B hB d
      induction d with
      | zero=>
        intro i s fu h1 h2 h3
        obtain ⟨f,rfl⟩: ∃f,fu=f+1:=⟨fu - 1,by omega⟩
        obtain rfl:i=c.Kids.length:=by omega
        rw [fK,hB]
        simp only [zM,xH,yE,List.drop_length,uU,List.append_nil]
      | succ d ih=>
        intro i s fu h1 h2 h3
        obtain ⟨f,rfl⟩: ∃f,fu=f+1:=⟨fu - 1,by omega⟩
        have hi:i<c.Kids.length:=by omega
        have hx:c.Kids[i]? =some c.Kids[i]:=List.getElem?_eq_getElem hi
        obtain ⟨k1,k2,k3⟩:=aAs ok hx
        have hdr:=List.drop_eq_getElem_cons hi
        rw [hdr,cNs] at h3
        have hl:=mM c.Kids[i]
        rw [fK,hB]
        simp only [zM]
        rw [xE hi,yF,xQ hx,zI,aUa n _ s (by omega) k1 (by omega),zI]
        simp only []
        rw [decide_eq_false (by simp),yE,eH hi hlen,ih (i+1) _ f (by omega) (by omega) (by rw [List.length_append]; omega),hdr,uU,List.append_assoc]
    unfold fV
    refine (key _ (fun _ _ _=>rfl) c.Kids.length 0 (l++nm1 c) FU (by omega) (vJ hlen) (by rw [List.length_append,List.drop_zero]; omega)).trans ?_
    rw [List.drop_zero,List.append_assoc,← aCf]
theorem aGr {c:Cond}(g:Gt c):Fb2 c=some (jW c):=by
  have:=g.d; have:=g.n
  unfold Fb2 Fgz
  rw [aUa FU c [] (Nat.le_of_lt (aJg (by omega))) g.ok (by simp; omega),zI,List.nil_append]
def jB (r:Rules):List Str:=(r.Moves.flatMap fun m=>jW m.When)++r.Rules.flatMap fun x=>jW x.When
theorem sV {α:Type}(f:α→List Str)(K:Nat): ∀(l:List α),(∀x ∈ l,(f x).length≤K)→(l.flatMap f).length≤l.length * K
  | [],_=>by simp
  | x :: l,h=>by
    have h1:=h x List.mem_cons_self
    have h2:=sV f K l fun y hy=>h y (List.mem_cons_of_mem _ hy)
    rw [List.flatMap_cons,List.length_append,List.length_cons,Nat.succ_mul]; omega
theorem aJk {r:Rules}(g:Gr' r):(jB r).length≤48000:=by
  have h1:=sV (fun m:pK=>jW m.When) 400 r.Moves fun x hx=>by have:=mM x.When; have:=(g.mg x hx).1.n; omega
  have h2:=sV (fun m:kE=>jW m.When) 400 r.Rules fun x hx=>by have:=mM x.When; have:=(g.lg x hx).1.n; omega
  have:=g.m; have:=g.l
  unfold jB; rw [List.length_append]; omega
theorem aNe {r : Rules} (g : Gr' r) : Fdh r = some (kL (tH (jB r))) := by
  have hm := g.m; have hl := g.l
  have e1 : Fd3 r (r.Moves.length : Int) ([], 0) = some (r.Moves.flatMap fun m => jW m.When) := by
    have key : ∃ q, Fd3 r (r.Moves.length : Int) ([], 0) = some q ∧ q = r.Moves.flatMap fun m => jW m.When := by
      unfold Fd3
      refine dS (fun (i : Nat) (s : List Str) => (s, (i : Int))) r.Moves (fun i s => s = (r.Moves.take i).flatMap fun m => jW m.When) (fun s => s = r.Moves.flatMap fun m => jW m.When) (by omega) ?_ ?_ [] (by simp)
      · intro k i s x hx hi hI
        have gx := (g.mg x (List.mem_of_getElem? hx)).1
        have h1 := sV (fun m : pK => jW m.When) 400 (r.Moves.take i) fun y hy => by have := mM y.When; have := (g.mg y (List.mem_of_mem_take hy)).1.n; omega
        have h2 := mM x.When
        have h3 := gx.n
        have h4 : (r.Moves.take i).length ≤ 60 := by simp; omega
        refine ⟨s ++ jW x.When, by rw [hI, take_snoc hx]; simp, ?_⟩
        simp only [zM]
        rw [xE hi, yF, xQ hx, zI, aGr gx, zI, aPr s _ (by rw [hI]; omega), zI, eH hi (by omega)]
      · intro k s hI
        simp only [zM]
        rw [xH, yE]
        exact ⟨_, rfl, by rw [hI, List.take_length]⟩
    obtain ⟨q, h1, rfl⟩ := key
    exact h1
  have e2 : Fc0 r (r.Rules.length : Int) (r.Moves.flatMap (fun m => jW m.When), 0) = some (jB r) := by
    have key : ∃ q, Fc0 r (r.Rules.length : Int) (r.Moves.flatMap (fun m => jW m.When), 0) = some q ∧ q = jB r := by
      unfold Fc0
      refine dS (fun (i : Nat) (s : List Str) => (s, (i : Int))) r.Rules (fun i s => s = (r.Moves.flatMap fun m => jW m.When) ++ (r.Rules.take i).flatMap fun m => jW m.When) (fun s => s = jB r) (by omega) ?_ ?_ _ (by simp)
      · intro k i s x hx hi hI
        have gx := (g.lg x (List.mem_of_getElem? hx)).1
        have h0 := sV (fun m : pK => jW m.When) 400 r.Moves fun y hy => by have := mM y.When; have := (g.mg y hy).1.n; omega
        have h1 := sV (fun m : kE => jW m.When) 400 (r.Rules.take i) fun y hy => by have := mM y.When; have := (g.lg y (List.mem_of_mem_take hy)).1.n; omega
        have h2 := mM x.When
        have h3 := gx.n
        have h4 : (r.Rules.take i).length ≤ 60 := by simp; omega
        refine ⟨s ++ jW x.When, by rw [hI, take_snoc hx]; simp, ?_⟩
        simp only [zM]
        rw [xE hi, yF, xQ hx, zI, aGr gx, zI, aPr s _ (by rw [hI, List.length_append]; omega), zI, eH hi (by omega)]
      · intro k s hI
        simp only [zM]
        rw [xH, yE]
        exact ⟨_, rfl, by rw [hI, List.take_length]; rfl⟩
    obtain ⟨q, h1, rfl⟩ := key
    exact h1
  have hn := aJk g
  unfold Fdh
  simp only [zM]
  rw [e1, zI, e2, zI]
  unfold Feg Ffn
  rw [if_pos (by omega), zI, if_pos (by rw [aPz]; omega), zI]
end Go.Lf
namespace Go.Lf
open Go.OB
def SS (l:List Str):Prop:=l.Pairwise fun a b=>slt a b=true
theorem SS.ext {l m : List Str} (h1 : SS l) (h2 : SS m) (h : ∀ x, x ∈ l ↔ x ∈ m) : l = m := by
  induction l generalizing m with
  | nil =>
    cases m with
    | nil => rfl
    | cons b m => exact absurd ((h b).2 List.mem_cons_self) (by simp)
  | cons a l ih =>
    cases m with
    | nil => exact absurd ((h a).1 List.mem_cons_self) (by simp)
    | cons b m =>
      unfold SS at h1 h2
      rw [List.pairwise_cons] at h1 h2
      have e : a = b := by
        rcases List.mem_cons.1 ((h a).1 List.mem_cons_self) with q | q
        · exact q
        · rcases List.mem_cons.1 ((h b).2 List.mem_cons_self) with q2 | q2
          · exact q2.symm
          · have := aJl (h2.1 a q)
            rw [h1.1 b q2] at this; cases this
      subst e
      rw [ih h1.2 h2.2 fun x => ?_]
      constructor
      · intro hx
        rcases List.mem_cons.1 ((h x).1 (List.mem_cons_of_mem _ hx)) with q | q
        · subst q; have := h1.1 x hx; rw [nR] at this; cases this
        · exact q
      · intro hx
        rcases List.mem_cons.1 ((h x).2 (List.mem_cons_of_mem _ hx)) with q | q
        · subst q; have := h2.1 x hx; rw [nR] at this; cases this
        · exact q
def aAf:List Str→Str→List Str
  | [],s=>[s]
  | x :: l,s=>if slt x s=true then x :: aAf l s else if x=s then x :: l else s :: x :: l
theorem aHt (s x : Str) : ∀ l, x ∈ aAf l s ↔ x ∈ l ∨ x = s
  | [] => by simp [aAf]
  | y :: l => by
    rw [aAf]
    split
    · rw [List.mem_cons, aHt s x l, List.mem_cons]; simp only [or_assoc]
    · split
      · rename_i q; subst q; simp only [List.mem_cons]
        constructor
        · exact .inl
        · rintro (h | h)
          · exact h
          · exact .inl h
      · simp only [List.mem_cons]
        constructor
        · rintro (h | h)
          · exact .inr h
          · exact .inl h
        · rintro (h | h)
          · exact .inr h
          · exact .inl h
theorem aUb (s : Str) : ∀ l, SS l → SS (aAf l s)
  | [], _ => by simp [aAf, SS]
  | y :: l, h => by
    unfold SS at h
    rw [List.pairwise_cons] at h
    rw [aAf]
    split
    · rename_i c
      refine List.pairwise_cons.2 ⟨fun x hx => ?_, aUb s l h.2⟩
      rcases (aHt s x l).1 hx with q | rfl
      · exact h.1 x q
      · exact c
    · rename_i c
      have c : slt y s = false := by simpa using c
      split
      · exact List.pairwise_cons.2 h
      · rename_i d
        have e : slt s y = true := by
          cases z : slt s y with
          | true => rfl
          | false => exact absurd (aDj y s c z) d
        refine List.pairwise_cons.2 ⟨fun x hx => ?_, List.pairwise_cons.2 h⟩
        rcases List.mem_cons.1 hx with rfl | q
        · exact e
        · exact nN s y x e (h.1 x q)
theorem aOa (s:Str): ∀l,(aAf l s).length≤l.length+1
  | []=>by simp [aAf]
  | y :: l=>by
    rw [aAf]
    split
    · simp only [List.length_cons]; have:=aOa s l; omega
    · split<;>simp
theorem aNn (x:Str): ∀(xs l:List Str),x ∈ xs.foldl aAf l↔x ∈ l∨x ∈ xs
  | [],l=>by simp
  | y :: xs,l=>by rw [List.foldl_cons,aNn x xs,aHt,List.mem_cons,or_assoc]
theorem aUs: ∀(xs l:List Str),SS l→SS (xs.foldl aAf l)
  | [],_,h=>h
  | y :: xs,l,h=>aUs xs _ (aUb y l h)
theorem aPu: ∀(xs l:List Str),(xs.foldl aAf l).length≤l.length+xs.length
  | [],l=>by simp
  | y :: xs,l=>by
    rw [List.foldl_cons]
    have:=aPu xs (aAf l y)
    have:=aOa y l
    simp only [List.length_cons]; omega
theorem srtS_mem (x:Str)(l:List Str):x ∈ tH l↔x ∈ l:=List.mem_mergeSort
theorem srtS_asc (l:List Str):(tH l).Pairwise fun a b=>slt b a=false:=by
  have:=List.pairwise_mergeSort (le:=fun x y:Str=> !slt y x) (fun a b c h1 h2=>by
    simp only [Bool.not_eq_true'] at *
    exact aHs c b a h2 h1) (fun a b=>by
    cases h:slt b a with
    | false=>rfl
    | true=>simp [aJl h]) l
  exact this.imp fun h=>by simpa using h
theorem aEw (d : Array Str) (hd : ∀ i j, i < j → j < d.size → slt d[j]! d[i]! = false) : ∀ m, m ≤ d.size → SS (Lib.compactUpTo d m) ∧ (∀ x, x ∈ Lib.compactUpTo d m ↔ ∃ j, j < m ∧ d[j]! = x) ∧ (∀ x ∈ Lib.compactUpTo d m, x = d[m - 1]! ∨ slt x d[m - 1]! = true)
  | 0, _ => by simp [Lib.compactUpTo, SS]
  | m + 1, hm => by
    obtain ⟨h1, h2, h3⟩ := aEw d hd m (by omega)
    have hx : ∀ x, (∃ j, j < m + 1 ∧ d[j]! = x) ↔ (∃ j, j < m ∧ d[j]! = x) ∨ x = d[m]! := by
      intro x
      constructor
      · rintro ⟨j, hj, e⟩
        by_cases c : j = m
        · subst c; exact .inr e.symm
        · exact .inl ⟨j, by omega, e⟩
      · rintro (⟨j, hj, e⟩ | e)
        · exact ⟨j, by omega, e⟩
        · exact ⟨m, by omega, e.symm⟩
    rw [Lib.compactUpTo_succ, Nat.add_sub_cancel]
    by_cases c : m = 0
    · subst c
      have : Lib.keeps d 0 = true := Lib.keeps_lt_one d 0 (by omega)
      rw [this, if_pos rfl]
      have e0 : Lib.compactUpTo d 0 = [] := rfl
      rw [e0, List.nil_append]
      refine ⟨by simp [SS], fun x => ?_, fun x hx => .inl (List.mem_singleton.1 hx)⟩
      rw [hx]; simp
    · by_cases q : d[m]! = d[m - 1]!
      · rw [Lib.keeps_neg (by omega) q, if_neg (by simp), List.append_nil, q]
        refine ⟨h1, fun x => ?_, h3⟩
        rw [hx, h2]
        constructor
        · exact .inl
        · rintro (h | h)
          · exact h
          · exact ⟨m - 1, by omega, by rw [← q]; exact h.symm⟩
      · have lt : slt d[m - 1]! d[m]! = true := by
          cases z : slt d[m - 1]! d[m]! with
          | true => rfl
          | false => exact absurd (aDj _ _ (hd (m - 1) m (by omega) (by omega)) z) q
        rw [Lib.keeps_pos q, if_pos rfl]
        refine ⟨?_, fun x => ?_, fun x hx' => ?_⟩
        · unfold SS
          rw [List.pairwise_append]
          refine ⟨h1, by simp, fun a ha b hb => ?_⟩
          obtain rfl := List.mem_singleton.1 hb
          rcases h3 a ha with e | e
          · rw [e]; exact lt
          · exact nN _ _ _ e lt
        · rw [List.mem_append, h2, List.mem_singleton, hx]
        · rcases List.mem_append.1 hx' with h | h
          · rcases h3 x h with e | e
            · rw [e]; exact .inr lt
            · exact .inr (nN _ _ _ e lt)
          · exact .inl (List.mem_singleton.1 h)
theorem aFn (l : List Str) : SS (kL (tH l)) ∧ ∀ x, x ∈ kL (tH l) ↔ x ∈ l := by
  have hs := srtS_asc l
  obtain ⟨h1, h2, -⟩ := aEw (tH l).toArray (fun i j hij hj => by
    have hj' : j < (tH l).length := by simpa using hj
    rw [List.pairwise_iff_getElem] at hs
    have := hs i j (by omega) hj' hij
    simpa [getElem!_pos, hj', show i < (tH l).length by omega] using this) (tH l).length (by simp)
  refine ⟨h1, fun x => ?_⟩
  show x ∈ Lib.compactUpTo _ _ ↔ _
  rw [h2, ← srtS_mem x l, List.mem_iff_getElem]
  constructor
  · rintro ⟨j, hj, e⟩
    exact ⟨j, hj, by simpa [getElem!_pos, hj] using e⟩
  · rintro ⟨j, hj, e⟩
    exact ⟨j, hj, by simpa [getElem!_pos, hj] using e⟩
theorem aOl (l:List Str):kL (tH l)=l.foldl aAf []:=
  (aFn l).1.ext (aUs l [] (by simp [SS])) fun x=>by rw [(aFn l).2,aNn]; simp
end Go.Lf
namespace Go.Lf
open Go.OB
theorem chk_rl {r : Rules} (h : chk r = some 0) : ∀ (i : Nat) x, r.Rules[i]? = some x → nmd (r.Rules.take i) x.Name = false ∧ aAv (pRl r i) x.When = false := by
  unfold chk at h
  split at h
  · exact absurd (Option.some.inj h) (by decide)
  · obtain ⟨h1, h2⟩ := aX (phE r.Phases) _ _ _ h
    obtain ⟨h3, h4⟩ := aX (fun _ => mvE r) _ _ _ h1
    obtain ⟨h5, h6⟩ := aX (rlE r) _ _ _ h3
    intro i x hx
    have := h6 i x hx
    rw [Nat.zero_add] at this
    unfold rlE at this
    split at this
    · split at this
      · exact absurd this (by decide)
      · rename_i b
        split at this
        · split at this
          · exact absurd this (by decide)
          · rename_i d; exact ⟨by simpa using b, by simpa using d⟩
        · rename_i d; exact absurd this d
    · exact absurd this (by decide)
def trkN (r:Rules):List Str:=(jB r).foldl aAf []
theorem trkN_len {r:Rules}(g:Gr' r):(trkN r).length≤48000:=by
  have:=aPu (jB r) []
  have:=aJk g
  simp only [List.length_nil] at *
  unfold trkN; omega
end Go.Lf
