/- Walks: what each function computes, for every argument; no condition but those that stand in the statements. -/
import Derived.Test.YtckmiljbaejijaaGreatDoorSCa
namespace Go.Lf
open Go.OB
structure Gk (c:Cond):Prop where
  z:c.Kind≤7→c.Kids.length=0
  o:(c.Kind=8∨c.Kind=11∨c.Kind=12∨c.Kind=13∨c.Kind=15)→c.Kids.length=1
  t:c.Kind=14→c.Kids.length=2
  g:(c.Kind=9∨c.Kind=10)→2≤c.Kids.length
  fr:(c.Kind=5∨c.Kind=11∨c.Kind=12∨c.Kind=13)→1≤c.Frames
  cn:c.Kind=13→1≤c.N∧c.N≤c.Frames
  st:c.Kind=5→0≤c.N
  op:(c.Kind=3∨c.Kind=4)→1≤c.Op
set_option maxHeartbeats 20000000 in
theorem gk_in (nm ot:Str)(op n fr:Int)(ks:List Cond)(k:Int)(hk2:k=1∨k=2∨k=3∨k=4∨k=5∨k=6∨k=7∨k=8∨k=9∨k=10∨k=11∨k=12∨k=13∨k=14∨k=15)(h1:okS nm)(h2:okS ot)(h:Fac ⟨k,nm,ot,op,n,fr,ks⟩=some 0):Gk ⟨k,nm,ot,op,n,fr,ks⟩:=by
  rcases hk2 with rfl | rfl | rfl | rfl | rfl | rfl | rfl | rfl | rfl | rfl | rfl | rfl | rfl | rfl | rfl<;>
    (unfold Fac at h
     simp only [rf1,rf2,rf3,rf4,rf5,rf6,rf7,rf8,rf9,rf10,rf11,rf12,rf13,rf14,rf15,zQ,zU,Bool.not_true,Bool.not_false,yM,yN,xY,out6,aN _ h1,aN _ h2,Int.reduceEq,Int.reduceLT,Int.reduceLE,decide_true,decide_false,Bool.or_self,uQ,aK,sF] at h
     simp only [kC] at h
     constructor<;>grind)
theorem gk_of {c : Cond} (ok : okC c) (hk : c.Kids.length ≤ 200) (h : ck1 c = 0) : Gk c := by
  have e := (aDj c (aCd ok) hk).2
  rw [h] at e
  by_cases hb : 1 ≤ c.Kind ∧ c.Kind ≤ 15
  · have o := aCd ok
    obtain ⟨k, nm, ot, op, n, fr, ks⟩ := c
    have hk2 : k = 1 ∨ k = 2 ∨ k = 3 ∨ k = 4 ∨ k = 5 ∨ k = 6 ∨ k = 7 ∨ k = 8 ∨ k = 9 ∨ k = 10 ∨ k = 11 ∨ k = 12 ∨ k = 13 ∨ k = 14 ∨ k = 15 := by have := hb.1; have := hb.2; simp only at *; omega
    exact gk_in nm ot op n fr ks k hk2 o.1 o.2 e
  · rw [(aOh c hb).2] at e
    cases e
theorem Gt.gk {c:Cond}(g:Gt c):Gk c:=by
  have h:=g.e
  rw [aEd] at h
  have h1:=uN c.Kids
  have h2:=tJ c
  have h3:=g.n
  split at h
  · rename_i q; exact gk_of g.ok (by omega) q
  · rename_i q; exact absurd h q
end Go.Lf
namespace Go.Lf
open Go.OB
def nm1 (c:Cond):List Str:=if c.Kind=3∨c.Kind=5 then [c.Name] else if c.Kind=4 then [c.Name,c.Other] else []
mutual
def kW:Cond→List Str
  | ⟨k,nm,ot,op,n,fr,ks⟩=>nm1 ⟨k,nm,ot,op,n,fr,ks⟩++rV ks
def rV:List Cond→List Str
  | []=>[]
  | c :: l=>kW c++rV l
end
theorem aAc (c:Cond):kW c=nm1 c++rV c.Kids:=by cases c; rfl
theorem aSp (c:Cond):(nm1 c).length≤2:=by unfold nm1; split<;>(try split)<;>simp
mutual
theorem jB: ∀c,(kW c).length≤2 * cN c
  | ⟨k,nm,ot,op,n,fr,ks⟩=>by
    have h:=aHm ks
    have h1:=aSp ⟨k,nm,ot,op,n,fr,ks⟩
    rw [aAc,List.length_append,tJ]
    show _+(rV ks).length≤2 * (1+cNs ks)
    omega
theorem aHm: ∀l,(rV l).length≤2 * cNs l
  | []=>by simp [rV]
  | c :: l=>by
    have h:=jB c
    have h1:=aHm l
    rw [rV,List.length_append,cNs]; omega
end
theorem aKm {α:Type}(p q:List α)(h:p.length+q.length≤8000000000000):app' 16 p q=some (p++q):=by
  unfold app'
  rw [if_pos ⟨by rw [maxLen_eq]; omega,by omega⟩]
theorem app8 {α:Type}(p q:List α)(h:p.length+q.length≤8000000000000):app' 8 p q=some (p++q):=by
  unfold app'
  rw [if_pos ⟨by rw [maxLen_eq]; omega,by omega⟩]
theorem nm_step (c : Cond) (l : List Str) (h : l.length ≤ 7000000000000) : Fcy c l = some (0, l ++ nm1 c) := by
  unfold Fcy nm1
  simp only [zU, wC, zQ]
  by_cases h3 : c.Kind = 3
  · simp only [h3, if_pos, true_or, decide_true, zQ, yM]
    rw [aKm l _ (by simp; omega), zQ, zQ]
  · by_cases h5 : c.Kind = 5
    · simp only [h5, show ¬ ((5 : Int) = 3) by decide, if_neg, if_pos, or_true, decide_true, zQ, yM, if_false]
      rw [aKm l _ (by simp; omega), zQ, zQ]
    · simp only [h3, h5, if_neg, decide_false, zQ, yN, false_or, or_self, if_false]
      by_cases h4 : c.Kind = 4
      · simp only [h4, if_pos]
        rw [aKm l _ (by simp; omega), zQ, zQ]
      · simp only [h4, if_neg, if_false, zQ, List.append_nil, not_false_eq_true]
theorem aSa: ∀(n:Nat) (c:Cond) (l:List Str),dN c≤n→okC c→l.length+2 * cN c≤7000000000000→Faz n c l=some (0,l++kW c)
  | 0,c,_,h,_,_=>by have:=mW c; omega
  | n+1,c,l,h,ok,hc=>by
    have hlen:=((aU c).1 ok).2.1
    have hcc:=tJ c
    have h1:=aSp c
    show Fcv (Faz n) c l=_
    unfold Fcv
    rw [nm_step c l (by omega),zQ]
    simp only [zU,xY]
    rw [decide_eq_false (by simp),yN]
    unfold Ffh
    have key: ∀(B:(Int×List Str→Option (Int×List Str))→Int×List Str→Option (Int×List Str)) (_: ∀k (i:Int) (s:List Str),B k (i,s)=gI (decide (i<(c.Kids.length:Int))) fun x=>gQ x (gG (at' c.Kids i) fun x422=>gG (Faz n x422 s) fun p=>gI (decide (p.1≠0)) fun x450=>gQ x450 (some (p.1,p.2)) (gI (IntKind.i64.wrap (i+1)) fun x454=>k (x454,p.2))) (some (0,s)))
        (d i:Nat) (s:List Str) (fu:Nat),i+d=c.Kids.length→d<fu→s.length+2 * cNs (c.Kids.drop i)≤7000000000000→fU B fu ((i:Int),s)=some (0,s++rV (c.Kids.drop i)):=by
      intro B hB d
      induction d with
      | zero=>
        intro i s fu h1 h2 h3
        obtain ⟨f,rfl⟩: ∃f,fu=f+1:=⟨fu - 1,by omega⟩
        obtain rfl:i=c.Kids.length:=by omega
        rw [fU,hB]
        simp only [zU,xQ,yN,List.drop_length,rV,List.append_nil]
      | succ d ih=>
        intro i s fu h1 h2 h3
        obtain ⟨f,rfl⟩: ∃f,fu=f+1:=⟨fu - 1,by omega⟩
        have hi:i<c.Kids.length:=by omega
        have hx:c.Kids[i]? =some c.Kids[i]:=List.getElem?_eq_getElem hi
        obtain ⟨k1,k2,k3⟩:=jJ ok hx
        have hdr:=List.drop_eq_getElem_cons hi
        rw [hdr,cNs] at h3
        have hl:=jB c.Kids[i]
        rw [fU,hB]
        simp only [zU]
        rw [xP hi,yM,wG hx,zQ,aSa n _ s (by omega) k1 (by omega),zQ]
        simp only []
        rw [decide_eq_false (by simp),yN,eQ hi hlen,ih (i+1) _ f (by omega) (by omega) (by rw [List.length_append]; omega),hdr,rV,List.append_assoc]
    unfold fQ
    refine (key _ (fun _ _ _=>rfl) c.Kids.length 0 (l++nm1 c) FU (by omega) (pV hlen) (by rw [List.length_append,List.drop_zero]; omega)).trans ?_
    rw [List.drop_zero,List.append_assoc,← aAc]
theorem aGe {c:Cond}(g:Gt c):Fbx c=some (kW c):=by
  have:=g.d; have:=g.n
  unfold Fbx Ffy
  rw [aSa FU c [] (Nat.le_of_lt (qG (by omega))) g.ok (by simp; omega),zQ,List.nil_append]
def nU (r:Rules):List Str:=(r.Moves.flatMap fun m=>kW m.When)++r.Rules.flatMap fun x=>kW x.When
theorem qQ {α:Type}(f:α→List Str)(K:Nat): ∀(l:List α),(∀x ∈ l,(f x).length≤K)→(l.flatMap f).length≤l.length * K
  | [],_=>by simp
  | x :: l,h=>by
    have h1:=h x List.mem_cons_self
    have h2:=qQ f K l fun y hy=>h y (List.mem_cons_of_mem _ hy)
    rw [List.flatMap_cons,List.length_append,List.length_cons,Nat.succ_mul]; omega
theorem aHg {r:Rules}(g:Gr' r):(nU r).length≤48000:=by
  have h1:=qQ (fun m:bK=>kW m.When) 400 r.Moves fun x hx=>by have:=jB x.When; have:=(g.mg x hx).1.n; omega
  have h2:=qQ (fun m:dE=>kW m.When) 400 r.Rules fun x hx=>by have:=jB x.When; have:=(g.lg x hx).1.n; omega
  have:=g.m; have:=g.l
  unfold nU; rw [List.length_append]; omega
theorem aKe {r : Rules} (g : Gr' r) : Fbe r = some (kU (uZ (nU r))) := by
  have hm := g.m; have hl := g.l
  have e1 : Fct r (r.Moves.length : Int) ([], 0) = some (r.Moves.flatMap fun m => kW m.When) := by
    have key : ∃ q, Fct r (r.Moves.length : Int) ([], 0) = some q ∧ q = r.Moves.flatMap fun m => kW m.When := by
      unfold Fct
      refine jP (fun (i : Nat) (s : List Str) => (s, (i : Int))) r.Moves (fun i s => s = (r.Moves.take i).flatMap fun m => kW m.When) (fun s => s = r.Moves.flatMap fun m => kW m.When) (by omega) ?_ ?_ [] (by simp)
      · intro k i s x hx hi hI
        have gx := (g.mg x (List.mem_of_getElem? hx)).1
        have h1 := qQ (fun m : bK => kW m.When) 400 (r.Moves.take i) fun y hy => by have := jB y.When; have := (g.mg y (List.mem_of_mem_take hy)).1.n; omega
        have h2 := jB x.When
        have h3 := gx.n
        have h4 : (r.Moves.take i).length ≤ 60 := by simp; omega
        refine ⟨s ++ kW x.When, by rw [hI, take_snoc hx]; simp, ?_⟩
        simp only [zU]
        rw [xP hi, yM, wG hx, zQ, aGe gx, zQ, aKm s _ (by rw [hI]; omega), zQ, eQ hi (by omega)]
      · intro k s hI
        simp only [zU]
        rw [xQ, yN]
        exact ⟨_, rfl, by rw [hI, List.take_length]⟩
    obtain ⟨q, h1, rfl⟩ := key
    exact h1
  have e2 : Fb2 r (r.Rules.length : Int) (r.Moves.flatMap (fun m => kW m.When), 0) = some (nU r) := by
    have key : ∃ q, Fb2 r (r.Rules.length : Int) (r.Moves.flatMap (fun m => kW m.When), 0) = some q ∧ q = nU r := by
      unfold Fb2
      refine jP (fun (i : Nat) (s : List Str) => (s, (i : Int))) r.Rules (fun i s => s = (r.Moves.flatMap fun m => kW m.When) ++ (r.Rules.take i).flatMap fun m => kW m.When) (fun s => s = nU r) (by omega) ?_ ?_ _ (by simp)
      · intro k i s x hx hi hI
        have gx := (g.lg x (List.mem_of_getElem? hx)).1
        have h0 := qQ (fun m : bK => kW m.When) 400 r.Moves fun y hy => by have := jB y.When; have := (g.mg y hy).1.n; omega
        have h1 := qQ (fun m : dE => kW m.When) 400 (r.Rules.take i) fun y hy => by have := jB y.When; have := (g.lg y (List.mem_of_mem_take hy)).1.n; omega
        have h2 := jB x.When
        have h3 := gx.n
        have h4 : (r.Rules.take i).length ≤ 60 := by simp; omega
        refine ⟨s ++ kW x.When, by rw [hI, take_snoc hx]; simp, ?_⟩
        simp only [zU]
        rw [xP hi, yM, wG hx, zQ, aGe gx, zQ, aKm s _ (by rw [hI, List.length_append]; omega), zQ, eQ hi (by omega)]
      · intro k s hI
        simp only [zU]
        rw [xQ, yN]
        exact ⟨_, rfl, by rw [hI, List.take_length]; rfl⟩
    obtain ⟨q, h1, rfl⟩ := key
    exact h1
  have hn := aHg g
  unfold Fbe
  simp only [zU]
  rw [e1, zQ, e2, zQ]
  unfold Fc9 Fdr
  rw [if_pos (by omega), zQ, if_pos (by rw [aMs]; omega), zQ]
end Go.Lf
namespace Go.Lf
open Go.OB
def SS (l:List Str):Prop:=l.Pairwise fun a b=>slt a b=true
theorem SS.ext {l m : List Str} (h1 : SS l) (h2 : SS m) (h : ∀ x, x ∈ l ↔ x ∈ m) : l = m := by
  induction l generalizing m with
  | nil =>
    cases m with
    | nil => rfl
    | cons b m => exact absurd ((h b).2 List.mem_cons_self) (by simp)
  | cons a l ih =>
    cases m with
    | nil => exact absurd ((h a).1 List.mem_cons_self) (by simp)
    | cons b m =>
      unfold SS at h1 h2
      rw [List.pairwise_cons] at h1 h2
      have e : a = b := by
        rcases List.mem_cons.1 ((h a).1 List.mem_cons_self) with q | q
        · exact q
        · rcases List.mem_cons.1 ((h b).2 List.mem_cons_self) with q2 | q2
          · exact q2.symm
          · have := aId (h2.1 a q)
            rw [h1.1 b q2] at this; cases this
      subst e
      rw [ih h1.2 h2.2 fun x => ?_]
      constructor
      · intro hx
        rcases List.mem_cons.1 ((h x).1 (List.mem_cons_of_mem _ hx)) with q | q
        · subst q; have := h1.1 x hx; rw [nO] at this; cases this
        · exact q
      · intro hx
        rcases List.mem_cons.1 ((h x).2 (List.mem_cons_of_mem _ hx)) with q | q
        · subst q; have := h2.1 x hx; rw [nO] at this; cases this
        · exact q
def vC:List Str→Str→List Str
  | [],s=>[s]
  | x :: l,s=>if slt x s=true then x :: vC l s else if x=s then x :: l else s :: x :: l
theorem aGb (s x : Str) : ∀ l, x ∈ vC l s ↔ x ∈ l ∨ x = s
  | [] => by simp [vC]
  | y :: l => by
    rw [vC]
    split
    · rw [List.mem_cons, aGb s x l, List.mem_cons]; simp only [or_assoc]
    · split
      · rename_i q; subst q; simp only [List.mem_cons]
        constructor
        · exact .inl
        · rintro (h | h)
          · exact h
          · exact .inl h
      · simp only [List.mem_cons]
        constructor
        · rintro (h | h)
          · exact .inr h
          · exact .inl h
        · rintro (h | h)
          · exact .inr h
          · exact .inl h
theorem aQt (s : Str) : ∀ l, SS l → SS (vC l s)
  | [], _ => by simp [vC, SS]
  | y :: l, h => by
    unfold SS at h
    rw [List.pairwise_cons] at h
    rw [vC]
    split
    · rename_i c
      refine List.pairwise_cons.2 ⟨fun x hx => ?_, aQt s l h.2⟩
      rcases (aGb s x l).1 hx with q | rfl
      · exact h.1 x q
      · exact c
    · rename_i c
      have c : slt y s = false := by simpa using c
      split
      · exact List.pairwise_cons.2 h
      · rename_i d
        have e : slt s y = true := by
          cases z : slt s y with
          | true => rfl
          | false => exact absurd (wZ y s c z) d
        refine List.pairwise_cons.2 ⟨fun x hx => ?_, List.pairwise_cons.2 h⟩
        rcases List.mem_cons.1 hx with rfl | q
        · exact e
        · exact jT s y x e (h.1 x q)
theorem aLr (s:Str): ∀l,(vC l s).length≤l.length+1
  | []=>by simp [vC]
  | y :: l=>by
    rw [vC]
    split
    · simp only [List.length_cons]; have:=aLr s l; omega
    · split<;>simp
theorem aAe (x:Str): ∀(xs l:List Str),x ∈ xs.foldl vC l↔x ∈ l∨x ∈ xs
  | [],l=>by simp
  | y :: xs,l=>by rw [List.foldl_cons,aAe x xs,aGb,List.mem_cons,or_assoc]
theorem aSb: ∀(xs l:List Str),SS l→SS (xs.foldl vC l)
  | [],_,h=>h
  | y :: xs,l,h=>aSb xs _ (aQt y l h)
theorem aMt: ∀(xs l:List Str),(xs.foldl vC l).length≤l.length+xs.length
  | [],l=>by simp
  | y :: xs,l=>by
    rw [List.foldl_cons]
    have:=aMt xs (vC l y)
    have:=aLr y l
    simp only [List.length_cons]; omega
theorem srtS_mem (x:Str)(l:List Str):x ∈ uZ l↔x ∈ l:=List.mem_mergeSort
theorem srtS_asc (l:List Str):(uZ l).Pairwise fun a b=>slt b a=false:=by
  have:=List.pairwise_mergeSort (le:=fun x y:Str=> !slt y x) (fun a b c h1 h2=>by
    simp only [Bool.not_eq_true'] at *
    exact aDv c b a h2 h1) (fun a b=>by
    cases h:slt b a with
    | false=>rfl
    | true=>simp [aId h]) l
  exact this.imp fun h=>by simpa using h
theorem aCk (d : Array Str) (hd : ∀ i j, i < j → j < d.size → slt d[j]! d[i]! = false) : ∀ m, m ≤ d.size → SS (Lib.compactUpTo d m) ∧ (∀ x, x ∈ Lib.compactUpTo d m ↔ ∃ j, j < m ∧ d[j]! = x) ∧ (∀ x ∈ Lib.compactUpTo d m, x = d[m - 1]! ∨ slt x d[m - 1]! = true)
  | 0, _ => by simp [Lib.compactUpTo, SS]
  | m + 1, hm => by
    obtain ⟨h1, h2, h3⟩ := aCk d hd m (by omega)
    have hx : ∀ x, (∃ j, j < m + 1 ∧ d[j]! = x) ↔ (∃ j, j < m ∧ d[j]! = x) ∨ x = d[m]! := by
      intro x
      constructor
      · rintro ⟨j, hj, e⟩
        by_cases c : j = m
        · subst c; exact .inr e.symm
        · exact .inl ⟨j, by omega, e⟩
      · rintro (⟨j, hj, e⟩ | e)
        · exact ⟨j, by omega, e⟩
        · exact ⟨m, by omega, e.symm⟩
    rw [Lib.compactUpTo_succ, Nat.add_sub_cancel]
    by_cases c : m = 0
    · subst c
      have : Lib.keeps d 0 = true := Lib.keeps_lt_one d 0 (by omega)
      rw [this, if_pos rfl]
      have e0 : Lib.compactUpTo d 0 = [] := rfl
      rw [e0, List.nil_append]
      refine ⟨by simp [SS], fun x => ?_, fun x hx => .inl (List.mem_singleton.1 hx)⟩
      rw [hx]; simp
    · by_cases q : d[m]! = d[m - 1]!
      · rw [Lib.keeps_neg (by omega) q, if_neg (by simp), List.append_nil, q]
        refine ⟨h1, fun x => ?_, h3⟩
        rw [hx, h2]
        constructor
        · exact .inl
        · rintro (h | h)
          · exact h
          · exact ⟨m - 1, by omega, by rw [← q]; exact h.symm⟩
      · have lt : slt d[m - 1]! d[m]! = true := by
          cases z : slt d[m - 1]! d[m]! with
          | true => rfl
          | false => exact absurd (wZ _ _ (hd (m - 1) m (by omega) (by omega)) z) q
        rw [Lib.keeps_pos q, if_pos rfl]
        refine ⟨?_, fun x => ?_, fun x hx' => ?_⟩
        · unfold SS
          rw [List.pairwise_append]
          refine ⟨h1, by simp, fun a ha b hb => ?_⟩
          obtain rfl := List.mem_singleton.1 hb
          rcases h3 a ha with e | e
          · rw [e]; exact lt
          · exact jT _ _ _ e lt
        · rw [List.mem_append, h2, List.mem_singleton, hx]
        · rcases List.mem_append.1 hx' with h | h
          · rcases h3 x h with e | e
            · rw [e]; exact .inr lt
            · exact .inr (jT _ _ _ e lt)
          · exact .inl (List.mem_singleton.1 h)
theorem aRe (l : List Str) : SS (kU (uZ l)) ∧ ∀ x, x ∈ kU (uZ l) ↔ x ∈ l := by
  have hs := srtS_asc l
  obtain ⟨h1, h2, -⟩ := aCk (uZ l).toArray (fun i j hij hj => by
    have hj' : j < (uZ l).length := by simpa using hj
    rw [List.pairwise_iff_getElem] at hs
    have := hs i j (by omega) hj' hij
    simpa [getElem!_pos, hj', show i < (uZ l).length by omega] using this) (uZ l).length (by simp)
  refine ⟨h1, fun x => ?_⟩
  show x ∈ Lib.compactUpTo _ _ ↔ _
  rw [h2, ← srtS_mem x l, List.mem_iff_getElem]
  constructor
  · rintro ⟨j, hj, e⟩
    exact ⟨j, hj, by simpa [getElem!_pos, hj] using e⟩
  · rintro ⟨j, hj, e⟩
    exact ⟨j, hj, by simpa [getElem!_pos, hj] using e⟩
theorem aLd (l:List Str):kU (uZ l)=l.foldl vC []:=
  (aRe l).1.ext (aSb l [] (by simp [SS])) fun x=>by rw [(aRe l).2,aAe]; simp
end Go.Lf
namespace Go.Lf
open Go.OB
def dpK (k fr:Int)(nm:Str)(f:Str→Int)(m:Int):Int:=
  if k=5 then fr else if k=6∨k=14 then -1 else if k=7 then f nm else if m<0 then -1 else if k=8∨k=9∨k=10 then m
  else if k=11∨k=12∨k=13 then IntKind.i64.wrap (IntKind.i64.wrap (m+fr) - 1) else if k=15 then IntKind.i64.wrap (m+1) else 1
mutual
def dpC (f:Str→Int):Cond→Int
  | ⟨k,nm,_,_,_,fr,ks⟩=>dpK k fr nm f (mV f ks)
def mV (f:Str→Int):List Cond→Int
  | []=>0
  | c :: l=>if dpC f c<0 then -1 else if mV f l<0 then -1 else max (dpC f c) (mV f l)
end
theorem aPe (f:Str→Int)(c:Cond):dpC f c=dpK c.Kind c.Frames c.Name f (mV f c.Kids):=by cases c; rfl
theorem aJh {β : Type} (B : (Int × Int → Option β) → Int × Int → Option β) (ks : List Cond) (f : Str → Int) (no : Option β) (yes : Int → Option β) (hk : ks.length ≤ 9223372036854775807)
    (h1 : ∀ k g i x, ks[i]? = some x → i < ks.length → B k (g, (i : Int)) = if dpC f x < 0 then no else k (max g (dpC f x), ((i + 1 : Nat) : Int))) (h2 : ∀ k g, B k (g, (ks.length : Int)) = yes g) :
    ∀ (d i : Nat) (g : Int) (fu : Nat), i + d = ks.length → d < fu → 0 ≤ g → fU B fu (g, (i : Int)) = if mV f (ks.drop i) < 0 then no else yes (max g (mV f (ks.drop i)))
  | 0, i, g, fu, hi, hf, hg => by
    obtain ⟨m, rfl⟩ : ∃ m, fu = m + 1 := ⟨fu - 1, by omega⟩
    obtain rfl : i = ks.length := by omega
    rw [fU, h2, List.drop_length, mV, if_neg (by decide)]
    congr 1; omega
  | d + 1, i, g, fu, hi, hf, hg => by
    obtain ⟨m, rfl⟩ : ∃ m, fu = m + 1 := ⟨fu - 1, by omega⟩
    have hil : i < ks.length := by omega
    rw [fU, h1 _ g i ks[i] (List.getElem?_eq_getElem hil) hil, List.drop_eq_getElem_cons hil, mV]
    by_cases c : dpC f ks[i] < 0
    · rw [if_pos c, if_pos c, if_pos (by decide)]
    · rw [if_neg c, if_neg c, aJh B ks f no yes hk h1 h2 d (i + 1) _ m (by omega) (by omega) (by omega)]
      by_cases e : mV f (ks.drop (i + 1)) < 0
      · rw [if_pos e, if_pos e, if_pos (by decide)]
      · rw [if_neg e, if_neg e, if_neg (by omega)]
        congr 1; omega
theorem aMa {f:Str→Int}{l:List Cond}(h:l.length=0):mV f l=0:=by
  rw [List.eq_nil_of_length_eq_zero h]; rfl
theorem aRk (m : List (Str × Int)) : ∀ (n : Nat) (c : Cond), dN c ≤ n → Gt c → Fbu n c m = some (dpC (fun s => bU m s 0) c)
  | 0, c, h, _ => by have := mW c; omega
  | n + 1, c, h, g => by
    have hlen := g.kids
    have gk := g.gk
    have gs := g.self
    show Fb0 (Fbu n) c m = _
    unfold Fb0
    simp only [zU, xY]
    unfold Feo fQ
    refine (aJh _ c.Kids (fun s => bU m s 0) (some (-1)) (fun w => some (if c.Kind = 5 then c.Frames else if c.Kind = 6 ∨ c.Kind = 14 then -1 else if c.Kind = 7 then bU m c.Name 0 else if c.Kind = 8 ∨ c.Kind = 9 ∨ c.Kind = 10 then w
        else if c.Kind = 11 ∨ c.Kind = 12 ∨ c.Kind = 13 then IntKind.i64.wrap (IntKind.i64.wrap (w + c.Frames) - 1) else if c.Kind = 15 then IntKind.i64.wrap (w + 1) else 1)) (by omega) ?_ ?_ c.Kids.length 0 0 FU (by omega) (pV (by omega)) (by omega)).trans ?_
    · intro k w i x hx hi
      obtain ⟨k1, k2, k3⟩ := jJ g.ok hx
      simp only [zU]
      rw [xP hi, yM, wG hx, zQ, aRk m n x (by omega) (g.kid (List.mem_of_getElem? hx)), zQ, eQ hi (by omega), wC]
    · intro k w
      simp only [zU, xQ, yN, uQ, zQ]
      simp only [kC, Bool.or_eq_true, decide_eq_true_eq]
      repeat' split
      all_goals first | rfl | (exfalso; omega)
    · rw [List.drop_zero, aPe]
      by_cases e : mV (fun s => bU m s 0) c.Kids < 0
      · rw [if_pos e]
        have hk : 8 ≤ c.Kind := by
          rcases Int.lt_or_le c.Kind 8 with q | q
          · rw [aMa (gk.z (by omega))] at e; omega
          · exact q
        unfold dpK
        rw [if_neg (by omega)]
        by_cases z : c.Kind = 14
        · rw [if_pos (.inr z)]
        · rw [if_neg (by omega), if_neg (by omega), if_pos e]
      · rw [if_neg e, show max (0 : Int) (mV (fun s => bU m s 0) c.Kids) = mV (fun s => bU m s 0) c.Kids by omega]
        unfold dpK
        simp only [if_neg e]
theorem ruleOf_ix (s : Str) (r : Rules) (hl : r.Rules.length ≤ 9223372036854775807) : ∃ n, Fah r s = some n ∧ ((n = -1 ∧ ∀ (j : Nat) x, r.Rules[j]? = some x → decide (x.Name = s) = false) ∨ ∃ j : Nat, n = ((0 + j : Nat) : Int) ∧ (∃ x, r.Rules[j]? = some x ∧ decide (x.Name = s) = true) ∧ ∀ (m : Nat) y, m < j → r.Rules[m]? = some y → decide (y.Name = s) = false) := by
  unfold Fah
  simp only [xY]
  unfold Fex
  obtain ⟨n, h1, h2⟩ := uJ (fun y : dE => decide (y.Name = s)) r.Rules 0
  refine ⟨n, ?_, h2⟩
  rw [xU r.Rules (fun i x => if decide (x.Name = s) = true then some (some (i : Int)) else none) (some (-1)) hl ?_ ?_, h1]
  · intro k i x hx hi
    simp only [zU]
    rw [xP hi, yM, wG hx, zQ, eQ hi hl]
    cases decide (x.Name = s) <;> rfl
  · intro k
    simp only [zU]
    rw [xQ, yN]
def look (r:Rules)(ds:List Int)(s:Str):Int:=bU ((r.Rules.map dE.Name).zip ds) s 0
theorem look_ix {r : Rules} {ds : List Int} {s : Str} {i : Nat} (hl : r.Rules.length ≤ 9223372036854775807) (hd : ds.length = i) (hi : i ≤ r.Rules.length) (hn : nmd (r.Rules.take i) s = true) : gG (Fah r s) (fun x87 => gG (at' ds x87) fun x91 => some x91) = some (look r ds s) := by
  obtain ⟨n, h1, h2⟩ := ruleOf_ix s r hl
  have ht := aRd h2 i
  have hn' : (r.Rules.take i).any (fun y => decide (y.Name = s)) = true := hn
  rw [hn', decide_eq_true_eq] at ht
  rcases h2 with ⟨rfl, _⟩ | ⟨j, rfl, ⟨x, hx, hxs⟩, hf⟩
  · omega
  · have hj : j < ds.length := by omega
    rw [h1, Nat.zero_add, zQ, wG (List.getElem?_eq_getElem hj), zQ]
    congr 1
    unfold look bU
    have key : ∀ (l : List dE) (ds : List Int) (j : Nat) (hj : j < ds.length), (∃ x, l[j]? = some x ∧ decide (x.Name = s) = true) → (∀ (m : Nat) y, m < j → l[m]? = some y → decide (y.Name = s) = false) →
        ((l.map dE.Name).zip ds).find? (fun p => decide (p.1 = s)) = some (s, ds[j]) := by
      intro l
      induction l with
      | nil => rintro ds j hj ⟨x, h, _⟩; simp at h
      | cons a l ih =>
        intro ds j hj h1 h2
        cases ds with
        | nil => simp at hj
        | cons d ds =>
          rw [List.map_cons, List.zip_cons_cons, List.find?_cons]
          cases j with
          | zero =>
            obtain ⟨x, h3, h4⟩ := h1
            obtain rfl : a = x := by simpa using h3
            have h5 := of_decide_eq_true h4
            simp [h5]
          | succ j =>
            have h3 := h2 0 a (by omega) rfl
            rw [show decide (a.Name = s) = false from h3]
            simp only []
            rw [ih ds j (by simpa using hj) (by simpa using h1) fun m y hm hy => h2 (m + 1) y (by omega) (by simpa using hy)]
            simp
    rw [key r.Rules ds j hj ⟨x, hx, hxs⟩ hf]
theorem anyC_kid {p:Cond→Bool}{c x:Cond}(h:aV p c=false)(hx:x ∈ c.Kids):aV p x=false:=by
  rw [uS,Bool.or_eq_false_iff] at h
  have key: ∀l:List Cond,rW p l=false→x ∈ l→aV p x=false:=by
    intro l
    induction l with
    | nil=>intro _ h; cases h
    | cons a l ih=>
      intro h hx
      rw [rW,Bool.or_eq_false_iff] at h
      rcases List.mem_cons.1 hx with rfl | q
      · exact h.1
      · exact ih h.2 q
  exact key _ h.2 hx
theorem aLt (r : Rules) (i : Nat) (ds : List Int) (hl : r.Rules.length ≤ 60) (hd : ds.length = i) (hi : i ≤ r.Rules.length) : ∀ (n : Nat) (c : Cond), dN c ≤ n → Gt c → aV (pRl r i) c = false → Fc4 n r c ds = some (dpC (look r ds) c)
  | 0, c, h, _, _ => by have := mW c; omega
  | n + 1, c, h, g, ha => by
    have hlen := g.kids
    have gk := g.gk
    have gs := g.self
    have hp : pRl r i c = false := by rw [uS, Bool.or_eq_false_iff] at ha; exact ha.1
    show Fen (Fc4 n) r c ds = _
    unfold Fen
    simp only [zU, xY, uQ, zQ]
    simp only [kC, Bool.or_eq_true, decide_eq_true_eq]
    rw [aPe]
    unfold dpK
    by_cases h5 : c.Kind = 5
    · rw [if_pos h5, if_pos h5]
    rw [if_neg h5, if_neg h5]
    by_cases h6 : c.Kind = 6 ∨ c.Kind = 14
    · rw [if_pos h6, if_pos h6]
    rw [if_neg h6, if_neg h6]
    by_cases h7 : c.Kind = 7
    · rw [if_pos h7, if_pos h7]
      refine look_ix (by omega) hd hi ?_
      unfold pRl at hp
      simp only [h7, decide_true, Bool.true_and, Bool.or_eq_false_iff, Bool.not_eq_eq_eq_not, Bool.not_false] at hp
      exact hp.2
    rw [if_neg h7, if_neg h7]
    by_cases h0 : (c.Kids.length : Int) = 0
    · have hk : c.Kind ≤ 4 := by
        rcases Int.lt_or_le 7 c.Kind with q | q
        · exfalso
          have := gk.o; have := gk.t; have := gk.g; have := gs.k1
          omega
        · omega
      rw [if_pos h0, aMa (by omega), if_neg (by decide), if_neg (by omega), if_neg (by omega), if_neg (by omega)]
    rw [if_neg h0]
    unfold Fgc fQ
    have hk8 : 8 ≤ c.Kind := by
      rcases Int.lt_or_le c.Kind 8 with q | q
      · exact absurd (gk.z (by omega)) (by omega)
      · exact q
    refine (aJh _ c.Kids (look r ds) (some (-1)) (fun w => some (if c.Kind = 8 ∨ c.Kind = 9 ∨ c.Kind = 10 then w else if c.Kind = 11 ∨ c.Kind = 12 ∨ c.Kind = 13 then IntKind.i64.wrap (IntKind.i64.wrap (w + c.Frames) - 1) else if c.Kind = 15 then IntKind.i64.wrap (w + 1) else 1)) (by omega) ?_ ?_ c.Kids.length 0 0 FU (by omega) (pV (by omega)) (by omega)).trans ?_
    · intro k w j x hx hj
      obtain ⟨k1, k2, k3⟩ := jJ g.ok hx
      have hm := List.mem_of_getElem? hx
      simp only [zU]
      rw [xP hj, yM, wG hx, zQ, aLt r i ds hl hd hi n x (by omega) (g.kid hm) (anyC_kid ha hm), zQ, eQ hj (by omega), wC]
    · intro k w
      simp only [zU, xQ, yN]
      have := gs.k1
      repeat' split
      all_goals first | rfl | (exfalso; omega)
    · rw [List.drop_zero]
      by_cases e : mV (look r ds) c.Kids < 0
      · rw [if_pos e, if_pos e]
      · rw [if_neg e, if_neg e, show max (0 : Int) (mV (look r ds) c.Kids) = mV (look r ds) c.Kids by omega]
end Go.Lf
namespace Go.Lf
open Go.OB
theorem aFj {r : Rules} (h : chk r = some 0) : ∀ (i : Nat) x, r.Rules[i]? = some x → nmd (r.Rules.take i) x.Name = false ∧ aV (pRl r i) x.When = false := by
  unfold chk at h
  split at h
  · exact absurd (Option.some.inj h) (by decide)
  · obtain ⟨h1, h2⟩ := aC (phE r.Phases) _ _ _ h
    obtain ⟨h3, h4⟩ := aC (fun _ => mvE r) _ _ _ h1
    obtain ⟨h5, h6⟩ := aC (rlE r) _ _ _ h3
    intro i x hx
    have := h6 i x hx
    rw [Nat.zero_add] at this
    unfold rlE at this
    split at this
    · split at this
      · exact absurd this (by decide)
      · rename_i b
        split at this
        · split at this
          · exact absurd this (by decide)
          · rename_i d; exact ⟨by simpa using b, by simpa using d⟩
        · rename_i d; exact absurd this d
    · exact absurd this (by decide)
def dsN (r:Rules):Nat→List Int
  | 0=>[]
  | i+1=>match r.Rules[i]? with
    | some x=>dsN r i++ [dpC (look r (dsN r i)) x.When]
    | none=>dsN r i
theorem jH (r:Rules): ∀i,i≤r.Rules.length→(dsN r i).length=i
  | 0,_=>rfl
  | i+1,h=>by
    have hx:r.Rules[i]? =some r.Rules[i]:=List.getElem?_eq_getElem (by omega)
    rw [dsN,hx]
    simp only [List.length_append,List.length_cons,List.length_nil]
    rw [jH r i (by omega)]
theorem aQx (s:Str): ∀(l:List dE) (ds:List Int),((l.map dE.Name).zip ds).any (fun p=>decide (p.1=s))=nmd (l.take ds.length) s
  | [],ds=>by simp [nmd]
  | a :: l,[]=>by simp [nmd]
  | a :: l,d :: ds=>by
    have ih:=aQx s l ds
    unfold nmd at *
    rw [List.map_cons,List.zip_cons_cons,List.any_cons,ih,List.length_cons,List.take_succ_cons,List.any_cons]
theorem aKq {x:dE}(d:Int): ∀(l:List dE) (ds:List Int),l[ds.length]? =some x→(l.map dE.Name).zip (ds++ [d])=(l.map dE.Name).zip ds++ [(x.Name,d)]
  | [],ds,h=>by simp at h
  | a :: l,[],h=>by
    obtain rfl:a=x:=by simpa using h
    cases l<;>simp
  | a :: l,e :: ds,h=>by
    rw [List.cons_append,List.map_cons,List.zip_cons_cons,List.zip_cons_cons,aKq d l ds (by simpa using h),List.cons_append]
theorem mget_snoc {k:Str}{v:Int}: ∀{l:List (Str×Int)},l.any (fun p=>decide (p.1=k))=false→bU (l++ [(k,v)]) k 0=v:=by
  intro l h
  have e:(l++ [(k,v)]).find? (fun p=>decide (p.1=k))=some (k,v):=by
    rw [List.find?_append,List.find?_eq_none.2 (fun p hp=>by rw [List.any_eq_false] at h; exact h p hp)]
    simp
  unfold bU
  rw [e]
theorem depth_eq {c:Cond}(g:Gt c)(m:List (Str×Int)):Ffa c m=some (dpC (fun s=>bU m s 0) c):=aRk m FU c (Nat.le_of_lt (qG (by have:=g.d; omega))) g
theorem rdepth_eq {r:Rules}{i:Nat}{ds:List Int}(hl:r.Rules.length≤60)(hd:ds.length=i)(hi:i≤r.Rules.length){c:Cond}(g:Gt c)(ha:aV (pRl r i) c=false):Ff7 r c ds=some (dpC (look r ds) c):=aLt r i ds hl hd hi FU c (Nat.le_of_lt (qG (by have:=g.d; omega))) g ha
theorem Depths_eq {r : Rules} (ok : okR r) (h : chk r = some 0) : Fa2 r = some (dsN r r.Rules.length, 0) ∧ Fgy r = some (dsN r r.Rules.length, 0) := by
  have g := aFy ok h
  have hl := g.l
  have hr := aFj h
  constructor
  · unfold Fa2
    rw [aEp r ok, h, zQ]
    simp only [zU]
    rw [decide_eq_false (by simp), yN]
    have key : ∃ q, Fdb r (r.Rules.length : Int) ([], 0, []) = some q ∧ q = dsN r r.Rules.length := by
      unfold Fdb
      refine jP (fun (i : Nat) (s : List Int × List (Str × Int)) => (s.1, (i : Int), s.2)) r.Rules (fun i s => s = (dsN r i, (r.Rules.map dE.Name).zip (dsN r i))) (fun s => s = dsN r r.Rules.length) (by omega) ?_ ?_ ([], []) (by simp [dsN])
      · rintro k i s x hx hi rfl
        have hd := jH r i (by omega)
        have gx := (g.lg x (List.mem_of_getElem? hx)).1
        obtain ⟨n1, n2⟩ := hr i x hx
        have za : ((r.Rules.map dE.Name).zip (dsN r i)).any (fun p => decide (p.1 = x.Name)) = false := by rw [aQx, hd]; exact n1
        have e : dsN r (i + 1) = dsN r i ++ [dpC (look r (dsN r i)) x.When] := by rw [dsN, hx]
        refine ⟨_, rfl, ?_⟩
        simp only [zU]
        rw [xP hi, yM, wG hx, zQ, depth_eq gx, zQ, uF _ _ za, mget_snoc za, app8 _ _ (by rw [hd]; simp; omega), zQ, eQ hi (by omega), e, aKq _ _ _ (by rw [hd]; exact hx)]
        rfl
      · rintro k s rfl
        simp only [zU]
        rw [xQ, yN]
        exact ⟨_, rfl, rfl⟩
    obtain ⟨q, h1, rfl⟩ := key
    rw [h1, zQ]
  · unfold Fgy
    rw [rCheck_eq r ok, h, zQ]
    simp only [zU]
    rw [decide_eq_false (by simp), yN]
    have key : ∃ q, Ffp r ([], 0) = some q ∧ q = dsN r r.Rules.length := by
      unfold Ffp
      refine jP (fun (i : Nat) (s : List Int) => (s, (i : Int))) r.Rules (fun i s => s = dsN r i) (fun s => s = dsN r r.Rules.length) (by omega) ?_ ?_ [] rfl
      · rintro k i s x hx hi rfl
        have hd := jH r i (by omega)
        have gx := (g.lg x (List.mem_of_getElem? hx)).1
        obtain ⟨n1, n2⟩ := hr i x hx
        have e : dsN r (i + 1) = dsN r i ++ [dpC (look r (dsN r i)) x.When] := by rw [dsN, hx]
        refine ⟨_, rfl, ?_⟩
        simp only [zU]
        rw [xP hi, yM, wG hx, zQ, rdepth_eq hl hd (by omega) gx n2, zQ, app8 _ _ (by rw [hd]; simp; omega), zQ, eQ hi (by omega), e]
      · rintro k s rfl
        simp only [zU]
        rw [xQ, yN]
        exact ⟨_, rfl, rfl⟩
    obtain ⟨q, h1, rfl⟩ := key
    rw [h1, zQ]
def aKk (r:Rules):List Str:=(nU r).foldl vC []
theorem trkN_len {r:Rules}(g:Gr' r):(aKk r).length≤48000:=by
  have:=aMt (nU r) []
  have:=aHg g
  simp only [List.length_nil] at *
  unfold aKk; omega
def aDz (c:Cond):Prop:=okC c
theorem okCond_mk {a0:Int}{a1 a2:Str}{a3 a4 a5:Int}{a6:List Cond}(k0:i64 a0)(k1:okS a1)(k2:okS a2)(k3:i64 a3)(k4:i64 a4)(k5:i64 a5)(k6:a6.length≤9223372036854775807∧ ∀x ∈ a6,aDz x):aDz ⟨a0,a1,a2,a3,a4,a5,a6⟩:=
  (aU _).2 ⟨⟨k0,k1,k2,k3,k4,k5⟩,k6.1,(qN _).2 k6.2⟩
def aIg (x:bK):Prop:=okS x.From∧okS x.To∧aDz x.When
def aNz (x:dE):Prop:=okS x.Name∧aDz x.When
def aIu (x:Rules):Prop:=okL (fun x=>okS x) x.Phases∧okL (fun x=>aIg x) x.Moves∧okL (fun x=>aNz x) x.Rules
end Go.Lf
