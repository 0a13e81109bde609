/- Walks: what each function computes, for every argument; no condition but those that stand in the statements. -/
import Derived.Test.YtckmiljbaejijaaGreatDoorSCa
namespace Go.Lf
open Go.OB
structure Gk (c:Cond):Prop where
  z:c.Kind≤7→c.Kids.length=0
  o:(c.Kind=8∨c.Kind=11∨c.Kind=12∨c.Kind=13∨c.Kind=15)→c.Kids.length=1
  t:c.Kind=14→c.Kids.length=2
  g:(c.Kind=9∨c.Kind=10)→2≤c.Kids.length
  fr:(c.Kind=5∨c.Kind=11∨c.Kind=12∨c.Kind=13)→1≤c.Frames
  cn:c.Kind=13→1≤c.N∧c.N≤c.Frames
  st:c.Kind=5→0≤c.N
  op:(c.Kind=3∨c.Kind=4)→1≤c.Op
set_option maxHeartbeats 20000000 in
theorem gk_in (nm ot:Str)(op n fr:Int)(ks:List Cond)(k:Int)(hk2:k=1∨k=2∨k=3∨k=4∨k=5∨k=6∨k=7∨k=8∨k=9∨k=10∨k=11∨k=12∨k=13∨k=14∨k=15)(h1:okS nm)(h2:okS ot)(h:Fad ⟨k,nm,ot,op,n,fr,ks⟩=some 0):Gk ⟨k,nm,ot,op,n,fr,ks⟩:=by
  rcases hk2 with rfl | rfl | rfl | rfl | rfl | rfl | rfl | rfl | rfl | rfl | rfl | rfl | rfl | rfl | rfl<;>
    (unfold Fad at h
     simp only [rf1,rf2,rf3,rf4,rf5,rf6,rf7,rf8,rf9,rf10,rf11,rf12,rf13,rf14,rf15,zW,yD,Bool.not_true,Bool.not_false,yZ,xC,dF,out6,rIsName_eq _ h1,rIsName_eq _ h2,Int.reduceEq,Int.reduceLT,Int.reduceLE,decide_true,decide_false,Bool.or_self,iteB_or,iteB_or2,iteB_and] at h
     simp only [iteB_ite] at h
     constructor<;>grind)
theorem gk_of {c : Cond} (ok : okC c) (hk : c.Kids.length ≤ 200) (h : ck1 c = 0) : Gk c := by
  have e := (ck_both c (okN_of ok) hk).2
  rw [h] at e
  by_cases hb : 1 ≤ c.Kind ∧ c.Kind ≤ 15
  · have o := okN_of ok
    obtain ⟨k, nm, ot, op, n, fr, ks⟩ := c
    have hk2 : k = 1 ∨ k = 2 ∨ k = 3 ∨ k = 4 ∨ k = 5 ∨ k = 6 ∨ k = 7 ∨ k = 8 ∨ k = 9 ∨ k = 10 ∨ k = 11 ∨ k = 12 ∨ k = 13 ∨ k = 14 ∨ k = 15 := by have := hb.1; have := hb.2; simp only at *; omega
    exact gk_in nm ot op n fr ks k hk2 o.1 o.2 e
  · rw [(chk_no c hb).2] at e
    cases e
theorem Gt.gk {c:Cond}(g:Gt c):Gk c:=by
  have h:=g.e
  rw [fE_eq] at h
  have h1:=len_cNs c.Kids
  have h2:=cN_eq c
  have h3:=g.n
  split at h
  · rename_i q; exact gk_of g.ok (by omega) q
  · rename_i q; exact absurd h q
end Go.Lf
namespace Go.Lf
open Go.OB
def nm1 (c:Cond):List Str:=if c.Kind=3∨c.Kind=5 then [c.Name] else if c.Kind=4 then [c.Name,c.Other] else []
mutual
def jC:Cond→List Str
  | ⟨k,nm,ot,op,n,fr,ks⟩=>nm1 ⟨k,nm,ot,op,n,fr,ks⟩++nmsCs ks
def nmsCs:List Cond→List Str
  | []=>[]
  | c :: l=>jC c++nmsCs l
end
theorem nmsC_eq (c:Cond):jC c=nm1 c++nmsCs c.Kids:=by cases c; rfl
theorem nm1_len (c:Cond):(nm1 c).length≤2:=by unfold nm1; split<;>(try split)<;>simp
mutual
theorem nmsC_len: ∀c,(jC c).length≤2 * cN c
  | ⟨k,nm,ot,op,n,fr,ks⟩=>by
    have h:=nmsCs_len ks
    have h1:=nm1_len ⟨k,nm,ot,op,n,fr,ks⟩
    rw [nmsC_eq,List.length_append,cN_eq]
    show _+(nmsCs ks).length≤2 * (1+cNs ks)
    omega
theorem nmsCs_len: ∀l,(nmsCs l).length≤2 * cNs l
  | []=>by simp [nmsCs]
  | c :: l=>by
    have h:=nmsC_len c
    have h1:=nmsCs_len l
    rw [nmsCs,List.length_append,cNs]; omega
end
theorem app16 {α:Type}(p q:List α)(h:p.length+q.length≤8000000000000):app' 16 p q=some (p++q):=by
  unfold app'
  rw [if_pos ⟨by rw [maxLen_eq]; omega,by omega⟩]
theorem nm_step (c : Cond) (l : List Str) (h : l.length ≤ 7000000000000) : Fcy c l = some (0, l ++ nm1 c) := by
  unfold Fcy nm1
  simp only [yD, wI, zW]
  by_cases h3 : c.Kind = 3
  · simp only [h3, if_pos, true_or, decide_true, zW, yZ]
    rw [app16 l _ (by simp; omega), zW, zW]
  · by_cases h5 : c.Kind = 5
    · simp only [h5, show ¬ ((5 : Int) = 3) by decide, if_neg, if_pos, or_true, decide_true, zW, yZ, if_false]
      rw [app16 l _ (by simp; omega), zW, zW]
    · simp only [h3, h5, if_neg, decide_false, zW, xC, false_or, or_self, if_false]
      by_cases h4 : c.Kind = 4
      · simp only [h4, if_pos]
        rw [app16 l _ (by simp; omega), zW, zW]
      · simp only [h4, if_neg, if_false, zW, List.append_nil, not_false_eq_true]
theorem each4_R: ∀(n:Nat) (c:Cond) (l:List Str),dN c≤n→okC c→l.length+2 * cN c≤7000000000000→Fa2 n c l=some (0,l++jC c)
  | 0,c,_,h,_,_=>by have:=dN_pos c; omega
  | n+1,c,l,h,ok,hc=>by
    have hlen:=((okC_eq c).1 ok).2.1
    have hcc:=cN_eq c
    have h1:=nm1_len c
    show Fcz (Fa2 n) c l=_
    unfold Fcz
    rw [nm_step c l (by omega),zW]
    simp only [yD,dF]
    rw [decide_eq_false (by simp),xC]
    unfold Fem
    have key: ∀(B:(Int×List Str→Option (Int×List Str))→Int×List Str→Option (Int×List Str)) (_: ∀k (i:Int) (s:List Str),B k (i,s)=gQ (decide (i<(c.Kids.length:Int))) fun x=>gX x (gG (at' c.Kids i) fun x422=>gG (Fa2 n x422 s) fun p=>gQ (decide (p.1≠0)) fun x450=>gX x450 (some (p.1,p.2)) (gQ (IntKind.i64.wrap (i+1)) fun x454=>k (x454,p.2))) (some (0,s)))
        (d i:Nat) (s:List Str) (fu:Nat),i+d=c.Kids.length→d<fu→s.length+2 * cNs (c.Kids.drop i)≤7000000000000→eF B fu ((i:Int),s)=some (0,s++nmsCs (c.Kids.drop i)):=by
      intro B hB d
      induction d with
      | zero=>
        intro i s fu h1 h2 h3
        obtain ⟨f,rfl⟩: ∃f,fu=f+1:=⟨fu - 1,by omega⟩
        obtain rfl:i=c.Kids.length:=by omega
        rw [eF,hB]
        simp only [yD,wF,xC,List.drop_length,nmsCs,List.append_nil]
      | succ d ih=>
        intro i s fu h1 h2 h3
        obtain ⟨f,rfl⟩: ∃f,fu=f+1:=⟨fu - 1,by omega⟩
        have hi:i<c.Kids.length:=by omega
        have hx:c.Kids[i]? =some c.Kids[i]:=List.getElem?_eq_getElem hi
        obtain ⟨k1,k2,k3⟩:=kid_ok ok hx
        have hdr:=List.drop_eq_getElem_cons hi
        rw [hdr,cNs] at h3
        have hl:=nmsC_len c.Kids[i]
        rw [eF,hB]
        simp only [yD]
        rw [wG hi,yZ,dL hx,zW,each4_R n _ s (by omega) k1 (by omega),zW]
        simp only []
        rw [decide_eq_false (by simp),xC,dG hi hlen,ih (i+1) _ f (by omega) (by omega) (by rw [List.length_append]; omega),hdr,nmsCs,List.append_assoc]
    unfold eG
    refine (key _ (fun _ _ _=>rfl) c.Kids.length 0 (l++nm1 c) FU (by omega) (FU_big hlen) (by rw [List.length_append,List.drop_zero]; omega)).trans ?_
    rw [List.drop_zero,List.append_assoc,← nmsC_eq]
theorem namesIn_eq {c:Cond}(g:Gt c):Fb2 c=some (jC c):=by
  have:=g.d; have:=g.n
  unfold Fb2 Ffh
  rw [each4_R FU c [] (Nat.le_of_lt (FU_gt (by omega))) g.ok (by simp; omega),zW,List.nil_append]
def allNm (r:Rules):List Str:=(r.Moves.flatMap fun m=>jC m.When)++r.Rules.flatMap fun x=>jC x.When
theorem flat_len {α:Type}(f:α→List Str)(K:Nat): ∀(l:List α),(∀x ∈ l,(f x).length≤K)→(l.flatMap f).length≤l.length * K
  | [],_=>by simp
  | x :: l,h=>by
    have h1:=h x List.mem_cons_self
    have h2:=flat_len f K l fun y hy=>h y (List.mem_cons_of_mem _ hy)
    rw [List.flatMap_cons,List.length_append,List.length_cons,Nat.succ_mul]; omega
theorem allNm_len {r:Rules}(g:Gr' r):(allNm r).length≤48000:=by
  have h1:=flat_len (fun m:aF=>jC m.When) 400 r.Moves fun x hx=>by have:=nmsC_len x.When; have:=(g.mg x hx).1.n; omega
  have h2:=flat_len (fun m:bJ=>jC m.When) 400 r.Rules fun x hx=>by have:=nmsC_len x.When; have:=(g.lg x hx).1.n; omega
  have:=g.m; have:=g.l
  unfold allNm; rw [List.length_append]; omega
theorem tracksIn_eq {r : Rules} (g : Gr' r) : Fbq r = some (kZ (srtS (allNm r))) := by
  have hm := g.m; have hl := g.l
  have e1 : Fch r (r.Moves.length : Int) ([], 0) = some (r.Moves.flatMap fun m => jC m.When) := by
    have key : ∃ q, Fch r (r.Moves.length : Int) ([], 0) = some q ∧ q = r.Moves.flatMap fun m => jC m.When := by
      unfold Fch
      refine jA (fun (i : Nat) (s : List Str) => (s, (i : Int))) r.Moves (fun i s => s = (r.Moves.take i).flatMap fun m => jC m.When) (fun s => s = r.Moves.flatMap fun m => jC m.When) (by omega) ?_ ?_ [] (by simp)
      · intro k i s x hx hi hI
        have gx := (g.mg x (List.mem_of_getElem? hx)).1
        have h1 := flat_len (fun m : aF => jC m.When) 400 (r.Moves.take i) fun y hy => by have := nmsC_len y.When; have := (g.mg y (List.mem_of_mem_take hy)).1.n; omega
        have h2 := nmsC_len x.When
        have h3 := gx.n
        have h4 : (r.Moves.take i).length ≤ 60 := by simp; omega
        refine ⟨s ++ jC x.When, by rw [hI, take_snoc hx]; simp, ?_⟩
        simp only [yD]
        rw [wG hi, yZ, dL hx, zW, namesIn_eq gx, zW, app16 s _ (by rw [hI]; omega), zW, dG hi (by omega)]
      · intro k s hI
        simp only [yD]
        rw [wF, xC]
        exact ⟨_, rfl, by rw [hI, List.take_length]⟩
    obtain ⟨q, h1, rfl⟩ := key
    exact h1
  have e2 : Fcx r (r.Rules.length : Int) (r.Moves.flatMap (fun m => jC m.When), 0) = some (allNm r) := by
    have key : ∃ q, Fcx r (r.Rules.length : Int) (r.Moves.flatMap (fun m => jC m.When), 0) = some q ∧ q = allNm r := by
      unfold Fcx
      refine jA (fun (i : Nat) (s : List Str) => (s, (i : Int))) r.Rules (fun i s => s = (r.Moves.flatMap fun m => jC m.When) ++ (r.Rules.take i).flatMap fun m => jC m.When) (fun s => s = allNm r) (by omega) ?_ ?_ _ (by simp)
      · intro k i s x hx hi hI
        have gx := (g.lg x (List.mem_of_getElem? hx)).1
        have h0 := flat_len (fun m : aF => jC m.When) 400 r.Moves fun y hy => by have := nmsC_len y.When; have := (g.mg y hy).1.n; omega
        have h1 := flat_len (fun m : bJ => jC m.When) 400 (r.Rules.take i) fun y hy => by have := nmsC_len y.When; have := (g.lg y (List.mem_of_mem_take hy)).1.n; omega
        have h2 := nmsC_len x.When
        have h3 := gx.n
        have h4 : (r.Rules.take i).length ≤ 60 := by simp; omega
        refine ⟨s ++ jC x.When, by rw [hI, take_snoc hx]; simp, ?_⟩
        simp only [yD]
        rw [wG hi, yZ, dL hx, zW, namesIn_eq gx, zW, app16 s _ (by rw [hI, List.length_append]; omega), zW, dG hi (by omega)]
      · intro k s hI
        simp only [yD]
        rw [wF, xC]
        exact ⟨_, rfl, by rw [hI, List.take_length]; rfl⟩
    obtain ⟨q, h1, rfl⟩ := key
    exact h1
  have hn := allNm_len g
  unfold Fbq
  simp only [yD]
  rw [e1, zW, e2, zW]
  unfold Fdy Fdk
  rw [if_pos (by omega), zW, if_pos (by rw [srtS_len]; omega), zW]
end Go.Lf
namespace Go.Lf
open Go.OB
def SS (l:List Str):Prop:=l.Pairwise fun a b=>slt a b=true
theorem SS.ext {l m : List Str} (h1 : SS l) (h2 : SS m) (h : ∀ x, x ∈ l ↔ x ∈ m) : l = m := by
  induction l generalizing m with
  | nil =>
    cases m with
    | nil => rfl
    | cons b m => exact absurd ((h b).2 List.mem_cons_self) (by simp)
  | cons a l ih =>
    cases m with
    | nil => exact absurd ((h a).1 List.mem_cons_self) (by simp)
    | cons b m =>
      unfold SS at h1 h2
      rw [List.pairwise_cons] at h1 h2
      have e : a = b := by
        rcases List.mem_cons.1 ((h a).1 List.mem_cons_self) with q | q
        · exact q
        · rcases List.mem_cons.1 ((h b).2 List.mem_cons_self) with q2 | q2
          · exact q2.symm
          · have := slt_asymm (h2.1 a q)
            rw [h1.1 b q2] at this; cases this
      subst e
      rw [ih h1.2 h2.2 fun x => ?_]
      constructor
      · intro hx
        rcases List.mem_cons.1 ((h x).1 (List.mem_cons_of_mem _ hx)) with q | q
        · subst q; have := h1.1 x hx; rw [slt_irrefl] at this; cases this
        · exact q
      · intro hx
        rcases List.mem_cons.1 ((h x).2 (List.mem_cons_of_mem _ hx)) with q | q
        · subst q; have := h2.1 x hx; rw [slt_irrefl] at this; cases this
        · exact q
def putS:List Str→Str→List Str
  | [],s=>[s]
  | x :: l,s=>if slt x s=true then x :: putS l s else if x=s then x :: l else s :: x :: l
theorem putS_mem (s x : Str) : ∀ l, x ∈ putS l s ↔ x ∈ l ∨ x = s
  | [] => by simp [putS]
  | y :: l => by
    rw [putS]
    split
    · rw [List.mem_cons, putS_mem s x l, List.mem_cons]; simp only [or_assoc]
    · split
      · rename_i q; subst q; simp only [List.mem_cons]
        constructor
        · exact .inl
        · rintro (h | h)
          · exact h
          · exact .inl h
      · simp only [List.mem_cons]
        constructor
        · rintro (h | h)
          · exact .inr h
          · exact .inl h
        · rintro (h | h)
          · exact .inr h
          · exact .inl h
theorem putS_ss (s : Str) : ∀ l, SS l → SS (putS l s)
  | [], _ => by simp [putS, SS]
  | y :: l, h => by
    unfold SS at h
    rw [List.pairwise_cons] at h
    rw [putS]
    split
    · rename_i c
      refine List.pairwise_cons.2 ⟨fun x hx => ?_, putS_ss s l h.2⟩
      rcases (putS_mem s x l).1 hx with q | rfl
      · exact h.1 x q
      · exact c
    · rename_i c
      have c : slt y s = false := by simpa using c
      split
      · exact List.pairwise_cons.2 h
      · rename_i d
        have e : slt s y = true := by
          cases z : slt s y with
          | true => rfl
          | false => exact absurd (slt_tri y s c z) d
        refine List.pairwise_cons.2 ⟨fun x hx => ?_, List.pairwise_cons.2 h⟩
        rcases List.mem_cons.1 hx with rfl | q
        · exact e
        · exact slt_trans s y x e (h.1 x q)
theorem putS_len (s:Str): ∀l,(putS l s).length≤l.length+1
  | []=>by simp [putS]
  | y :: l=>by
    rw [putS]
    split
    · simp only [List.length_cons]; have:=putS_len s l; omega
    · split<;>simp
theorem puts_mem (x:Str): ∀(xs l:List Str),x ∈ xs.foldl putS l↔x ∈ l∨x ∈ xs
  | [],l=>by simp
  | y :: xs,l=>by rw [List.foldl_cons,puts_mem x xs,putS_mem,List.mem_cons,or_assoc]
theorem puts_ss: ∀(xs l:List Str),SS l→SS (xs.foldl putS l)
  | [],_,h=>h
  | y :: xs,l,h=>puts_ss xs _ (putS_ss y l h)
theorem puts_len: ∀(xs l:List Str),(xs.foldl putS l).length≤l.length+xs.length
  | [],l=>by simp
  | y :: xs,l=>by
    rw [List.foldl_cons]
    have:=puts_len xs (putS l y)
    have:=putS_len y l
    simp only [List.length_cons]; omega
theorem srtS_mem (x:Str)(l:List Str):x ∈ srtS l↔x ∈ l:=List.mem_mergeSort
theorem srtS_asc (l:List Str):(srtS l).Pairwise fun a b=>slt b a=false:=by
  have:=List.pairwise_mergeSort (le:=fun x y:Str=> !slt y x) (fun a b c h1 h2=>by
    simp only [Bool.not_eq_true'] at *
    exact slt_ntrans c b a h2 h1) (fun a b=>by
    cases h:slt b a with
    | false=>rfl
    | true=>simp [slt_asymm h]) l
  exact this.imp fun h=>by simpa using h
theorem compact_inv (d : Array Str) (hd : ∀ i j, i < j → j < d.size → slt d[j]! d[i]! = false) : ∀ m, m ≤ d.size → SS (Lib.compactUpTo d m) ∧ (∀ x, x ∈ Lib.compactUpTo d m ↔ ∃ j, j < m ∧ d[j]! = x) ∧ (∀ x ∈ Lib.compactUpTo d m, x = d[m - 1]! ∨ slt x d[m - 1]! = true)
  | 0, _ => by simp [Lib.compactUpTo, SS]
  | m + 1, hm => by
    obtain ⟨h1, h2, h3⟩ := compact_inv d hd m (by omega)
    have hx : ∀ x, (∃ j, j < m + 1 ∧ d[j]! = x) ↔ (∃ j, j < m ∧ d[j]! = x) ∨ x = d[m]! := by
      intro x
      constructor
      · rintro ⟨j, hj, e⟩
        by_cases c : j = m
        · subst c; exact .inr e.symm
        · exact .inl ⟨j, by omega, e⟩
      · rintro (⟨j, hj, e⟩ | e)
        · exact ⟨j, by omega, e⟩
        · exact ⟨m, by omega, e.symm⟩
    rw [Lib.compactUpTo_succ, Nat.add_sub_cancel]
    by_cases c : m = 0
    · subst c
      have : Lib.keeps d 0 = true := Lib.keeps_lt_one d 0 (by omega)
      rw [this, if_pos rfl]
      have e0 : Lib.compactUpTo d 0 = [] := rfl
      rw [e0, List.nil_append]
      refine ⟨by simp [SS], fun x => ?_, fun x hx => .inl (List.mem_singleton.1 hx)⟩
      rw [hx]; simp
    · by_cases q : d[m]! = d[m - 1]!
      · rw [Lib.keeps_neg (by omega) q, if_neg (by simp), List.append_nil, q]
        refine ⟨h1, fun x => ?_, h3⟩
        rw [hx, h2]
        constructor
        · exact .inl
        · rintro (h | h)
          · exact h
          · exact ⟨m - 1, by omega, by rw [← q]; exact h.symm⟩
      · have lt : slt d[m - 1]! d[m]! = true := by
          cases z : slt d[m - 1]! d[m]! with
          | true => rfl
          | false => exact absurd (slt_tri _ _ (hd (m - 1) m (by omega) (by omega)) z) q
        rw [Lib.keeps_pos q, if_pos rfl]
        refine ⟨?_, fun x => ?_, fun x hx' => ?_⟩
        · unfold SS
          rw [List.pairwise_append]
          refine ⟨h1, by simp, fun a ha b hb => ?_⟩
          obtain rfl := List.mem_singleton.1 hb
          rcases h3 a ha with e | e
          · rw [e]; exact lt
          · exact slt_trans _ _ _ e lt
        · rw [List.mem_append, h2, List.mem_singleton, hx]
        · rcases List.mem_append.1 hx' with h | h
          · rcases h3 x h with e | e
            · rw [e]; exact .inr lt
            · exact .inr (slt_trans _ _ _ e lt)
          · exact .inl (List.mem_singleton.1 h)
theorem cmp_srt (l : List Str) : SS (kZ (srtS l)) ∧ ∀ x, x ∈ kZ (srtS l) ↔ x ∈ l := by
  have hs := srtS_asc l
  obtain ⟨h1, h2, -⟩ := compact_inv (srtS l).toArray (fun i j hij hj => by
    have hj' : j < (srtS l).length := by simpa using hj
    rw [List.pairwise_iff_getElem] at hs
    have := hs i j (by omega) hj' hij
    simpa [getElem!_pos, hj', show i < (srtS l).length by omega] using this) (srtS l).length (by simp)
  refine ⟨h1, fun x => ?_⟩
  show x ∈ Lib.compactUpTo _ _ ↔ _
  rw [h2, ← srtS_mem x l, List.mem_iff_getElem]
  constructor
  · rintro ⟨j, hj, e⟩
    exact ⟨j, hj, by simpa [getElem!_pos, hj] using e⟩
  · rintro ⟨j, hj, e⟩
    exact ⟨j, hj, by simpa [getElem!_pos, hj] using e⟩
theorem tracks_same (l:List Str):kZ (srtS l)=l.foldl putS []:=
  (cmp_srt l).1.ext (puts_ss l [] (by simp [SS])) fun x=>by rw [(cmp_srt l).2,puts_mem]; simp
end Go.Lf
namespace Go.Lf
open Go.OB
theorem chk_rl {r : Rules} (h : chk r = some 0) : ∀ (i : Nat) x, r.Rules[i]? = some x → nmd (r.Rules.take i) x.Name = false ∧ anyC (pRl r i) x.When = false := by
  unfold chk at h
  split at h
  · exact absurd (Option.some.inj h) (by decide)
  · obtain ⟨h1, h2⟩ := aN (phE r.Phases) _ _ _ h
    obtain ⟨h3, h4⟩ := aN (fun _ => mvE r) _ _ _ h1
    obtain ⟨h5, h6⟩ := aN (rlE r) _ _ _ h3
    intro i x hx
    have := h6 i x hx
    rw [Nat.zero_add] at this
    unfold rlE at this
    split at this
    · split at this
      · exact absurd this (by decide)
      · rename_i b
        split at this
        · split at this
          · exact absurd this (by decide)
          · rename_i d; exact ⟨by simpa using b, by simpa using d⟩
        · rename_i d; exact absurd this d
    · exact absurd this (by decide)
def trkN (r:Rules):List Str:=(allNm r).foldl putS []
theorem trkN_len {r:Rules}(g:Gr' r):(trkN r).length≤48000:=by
  have:=puts_len (allNm r) []
  have:=allNm_len g
  simp only [List.length_nil] at *
  unfold trkN; omega
theorem texts_ex (l:List Str)(e:Int)(h1:l.length≤50000)(h2: ∀s ∈ l,s.length≤30): ∃t,Fa3 l e=some t:=by
  unfold Fa3
  obtain ⟨q,h3,h4⟩:=ink_Texts (gK.mk []) l (b:=0) h2 (by simp) (by omega)
  obtain ⟨q2,h5,h6⟩:=ink_Int q e h4 (by omega)
  rw [h3,zW]
  unfold Fb1 Fbg
  rw [h5]
  exact ⟨_,rfl⟩
theorem lists1_ex (l : List Int) (e : Int) (h1 : l.length ≤ 50000) : ∃ t, Fbf [l] e = some t := by
  unfold Fbf
  have key : ∃ q, Fb7 (gK.mk []) [l] = some q ∧ q.out.length ≤ 10000000 := by
    unfold Fb7
    simp only [yD]
    obtain ⟨p, h3, h4⟩ := ink_Int (gK.mk []) (([l] : List (List Int)).length : Int) (b := 0) (by simp) (by omega)
    rw [h3, zW]
    unfold Fe8
    refine jA (fun (i : Nat) (s : List Int) => ((i : Int), s)) [l] (fun i s => s.length ≤ 22 + i * 5000000) (fun (r : gK) => r.out.length ≤ 10000000) (by simp) ?_ ?_ _ (by simpa using h4)
    · intro kk i s x hx hi hI
      obtain rfl : i = 0 := by simpa using hi
      obtain rfl : l = x := by simpa using hx
      obtain ⟨r, h5, h6⟩ := ink_Ints (gK.mk s) l (b := 22) (by simpa using hI) (by omega)
      refine ⟨r.out, by omega, ?_⟩
      simp only [yD]
      rw [wG hi, yZ, dL hx, zW, h5, zW, dG hi (by simp)]
    · intro kk s hI
      simp only [yD]
      rw [wF, xC]
      exact ⟨_, rfl, by simpa using (Nat.le_trans hI (by simp) : s.length ≤ 10000000)⟩
  obtain ⟨q, h3, h4⟩ := key
  obtain ⟨q2, h5, h6⟩ := ink_Int q e h4 (by omega)
  rw [h3, zW]
  unfold Fb1 Fbg
  rw [h5]
  exact ⟨_, rfl⟩
def okCond (c:Cond):Prop:=okC c
theorem okCond_mk {a0:Int}{a1 a2:Str}{a3 a4 a5:Int}{a6:List Cond}(k0:i64 a0)(k1:okS a1)(k2:okS a2)(k3:i64 a3)(k4:i64 a4)(k5:i64 a5)(k6:a6.length≤9223372036854775807∧ ∀x ∈ a6,okCond x):okCond ⟨a0,a1,a2,a3,a4,a5,a6⟩:=
  (okC_eq _).2 ⟨⟨k0,k1,k2,k3,k4,k5⟩,k6.1,(okCs_iff _).2 k6.2⟩
def okMoveT (x:aF):Prop:=okS x.From∧okS x.To∧okCond x.When
def okRule (x:bJ):Prop:=okS x.Name∧okCond x.When
def okRules (x:Rules):Prop:=okL (fun x=>okS x) x.Phases∧okL (fun x=>okMoveT x) x.Moves∧okL (fun x=>okRule x) x.Rules
end Go.Lf
