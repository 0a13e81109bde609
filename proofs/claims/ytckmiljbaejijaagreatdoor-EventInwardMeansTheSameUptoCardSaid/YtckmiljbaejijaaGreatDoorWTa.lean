/- Walks: what each function computes, for every argument; no condition but those that stand in the statements. -/
import Derived.Test.YtckmiljbaejijaaGreatDoorNTa
namespace Go.Lf
theorem opp_opp {t:Int}(h:0≤t∧t≤2):opp (opp t)=t:=by
  rcases tri h with rfl | rfl | rfl<;>rfl
def ctr (op:Int):Int:=if op=1 then 5 else if op=2 then 6 else if op=3 then 4 else if op=4 then 3 else if op=5 then 1 else 2
def aOg (op c:Int):Bool:=(Fak op c).getD false
theorem uP (op c:Int):Fak op c=some (aOg op c):=by
  obtain ⟨b,h⟩:=uO op c
  unfold aOg; rw [h]; rfl
theorem aAx (op c:Int):aOg op c=if op=1 then decide (c<0) else if op=2 then decide (c≤0) else if op=3 then decide (c=0) else if op=4 then decide (c≠0) else if op=5 then decide (0≤c) else decide (0<c):=by
  have h:=uP op c
  unfold Fak at h
  simp only [yB,wC] at h
  repeat' split at h
  all_goals (have h:=Option.some.inj h; rw [← h]; simp_all)
theorem aNl (op c : Int) : aOg (ctr op) c = !aOg op c := by
  rw [aAx, aAx]
  unfold ctr
  have nd : ∀ (p q : Prop) [Decidable p] [Decidable q], (p ↔ ¬ q) → decide p = !decide q := fun p q _ _ h => by rw [← decide_not]; exact decide_eq_decide.2 h
  by_cases h1 : op = 1
  · subst h1; simp only [Int.reduceEq, if_true, if_false]; exact nd _ _ (by omega)
  · by_cases h2 : op = 2
    · subst h2; simp only [Int.reduceEq, if_true, if_false]; exact nd _ _ (by omega)
    · by_cases h3 : op = 3
      · subst h3; simp only [Int.reduceEq, if_true, if_false]; exact nd _ _ (by omega)
      · by_cases h4 : op = 4
        · subst h4; simp only [Int.reduceEq, if_true, if_false]; exact nd _ _ (by omega)
        · by_cases h5 : op = 5
          · subst h5; simp only [Int.reduceEq, if_true, if_false]; exact nd _ _ (by omega)
          · simp only [h1, h2, h3, h4, h5, Int.reduceEq, if_true, if_false]; exact nd _ _ (by omega)
def trB (b:Bool):Int:=if b=true then 2 else 1
theorem aEk (b:Bool):Fbg b=some (trB b):=by cases b<;>rfl
theorem aRq (b:Bool):trB (!b)=opp (trB b):=by cases b<;>rfl
theorem aSk (m : gJ) (tr op n : Int) : aMj m tr op n = match at' m.told tr with
    | some x => if x.Known = true then trB (aOg op ((Fah (IntKind.i64.wrap (x.N - n))).getD 0)) else 0
    | none => 0 := by
  unfold aMj Fax
  show Option.getD (gG (at' m.told tr) _) 0 = _
  cases at' m.told tr with
  | none => rfl
  | some x =>
    simp only [gG, yB]
    cases x.Known
    · rfl
    · obtain ⟨s, h1, -⟩ := aAz (IntKind.i64.wrap (x.N - n))
      simp only [gQ, Bool.not_true, h1, uP, aEk, if_true]
      rfl
theorem aMo (m:gJ)(a b da db op:Int):pairT m a b da db op=match at' m.told a,at' m.told b with
    | some x,some y=>if x.Known=true∧y.Known=true then trB (aOg op ((Fbq x.N da y.N db).getD 0)) else 0
    | _,_=>0:=by
  unfold pairT Fav
  show Option.getD (gG (at' m.told a) fun x=>gG (at' m.told b) _) 0=_
  cases at' m.told a with
  | none=>rfl
  | some x=>
    cases at' m.told b with
    | none=>rfl
    | some y=>
      obtain ⟨s,h1⟩:=cf_ex x.N da y.N db
      simp only [gG,yB]
      cases x.Known<;>cases y.Known<;>simp [gQ,h1,uP,aEk]
theorem numT_ctr (m : gJ) (tr op n : Int) : aMj m tr (ctr op) n = opp (aMj m tr op n) := by
  rw [aSk, aSk]
  split
  · split
    · rw [aNl, aRq]
    · rfl
  · rfl
theorem pairT_ctr (m : gJ) (a b da db op : Int) : pairT m a b da db (ctr op) = opp (pairT m a b da db op) := by
  rw [aMo, aMo]
  split
  · split
    · rw [aNl, aRq]
    · rfl
  · rfl
def wrp (no:Bool)(k:Nd):Nd:=if no=true then .not k else k
def wL (no:Bool)(t:Int):Int:=if no=true then opp t else t
mutual
def dD (no:Bool):Nd→Nd
  | .constant t=> .constant (wL no t)
  | .number tr op n=> .number tr (if no=true then ctr op else op) n
  | .pair a b da db op=> .pair a b da db (if no=true then ctr op else op)
  | .steady tr n fr l=>wrp no (.steady tr n fr l)
  | .phase p=>wrp no (.phase p)
  | .rule r=>wrp no (.rule r)
  | .not k=>dD (!no) k
  | .group ks any=> .group (inwL no ks) (any !=no)
  | .count k n fr l _=> .count (dD no k) (if no=true then fr+1 - n else n) fr (l.map (wL no)) (mM (l.map (wL no)))
  | .since a b l g=>wrp no (.since (dD false a) (dD false b) l g)
  | .rises k l g=>wrp no (.rises (dD false k) l g)
def inwL (no:Bool):List Nd→List Nd
  | []=>[]
  | k :: ks=>dD no k :: inwL no ks
end
theorem pK (no:Bool): ∀l,inwL no l=l.map (dD no)
  | []=>by rw [inwL]; rfl
  | k :: ks=>by rw [inwL,pK no ks]; rfl
theorem aAs {m : gJ} (no : Bool) (k : Nd) : stp m (wrp no k) = (wL no (stp m k).1, wrp no (stp m k).2) := by
  cases no
  · rfl
  · show stp m (.not k) = _
    rw [stp]; rfl
theorem aKf {s w : Int} (hs : s = 1 ∧ w = 2 ∨ s = 2 ∧ w = 1) : ∀ (l : List Int) (o : Int), 0 ≤ o ∧ o ≤ 2 → (∀ t ∈ l, 0 ≤ t ∧ t ≤ 2) → (l.map opp).foldl (wQ (opp s) (opp w)) (opp o) = opp (l.foldl (wQ s w) o)
  | [], _, _, _ => rfl
  | t :: l, o, ho, hl => by
    have ht := hl t List.mem_cons_self
    have e : wQ (opp s) (opp w) (opp o) (opp t) = opp (wQ s w o t) := by
      rcases hs with ⟨rfl, rfl⟩ | ⟨rfl, rfl⟩ <;> rcases tri ht with rfl | rfl | rfl <;> rcases tri ho with rfl | rfl | rfl <;> rfl
    have hr : 0 ≤ wQ s w o t ∧ wQ s w o t ≤ 2 := by
      unfold wQ
      split
      · rcases hs with ⟨rfl, _⟩ | ⟨rfl, _⟩ <;> omega
      · split
        · split
          · omega
          · exact ho
        · exact ho
    rw [List.map_cons, List.foldl_cons, List.foldl_cons, e]
    exact aKf hs l _ hr fun x hx => hl x (List.mem_cons_of_mem _ hx)
theorem cnt_opp {l:List Int}(hl: ∀t ∈ l,0≤t∧t≤2):cnt 2 (l.map opp)=cnt 1 l∧cnt 1 (l.map opp)=cnt 2 l:=by
  induction l with
  | nil=>exact ⟨rfl,rfl⟩
  | cons a l ih=>
    obtain ⟨i1,i2⟩:=ih fun t ht=>hl t (List.mem_cons_of_mem _ ht)
    rw [List.map_cons,qB,qB,qB,qB,i1,i2]
    rcases tri (hl a List.mem_cons_self) with rfl | rfl | rfl<;>simp [opp]
theorem cnt_both (l : List Int) : cnt 1 l + cnt 2 l ≤ l.length := by
  induction l with
  | nil => simp [cnt]
  | cons a l ih =>
    rw [qB, qB, List.length_cons]
    by_cases h1 : a = 1
    · subst h1; simp; omega
    · by_cases h2 : a = 2
      · subst h2; simp; omega
      · simp [h1, h2]; omega
theorem cntT_opp {n fr : Int} {l : List Int} (hl : ∀ t ∈ l, 0 ≤ t ∧ t ≤ 2) (h : (l.length : Int) ≤ fr) : aGk (fr + 1 - n) fr (l.map opp) = opp (aGk n fr l) := by
  obtain ⟨e1, e2⟩ := cnt_opp hl
  have b := cnt_both l
  unfold aGk
  rw [e1, e2]
  by_cases c1 : n ≤ cnt 2 l
  · rw [if_pos c1, if_neg (by omega), if_pos (by omega)]; rfl
  · rw [if_neg c1]
    by_cases c2 : fr - n < cnt 1 l
    · rw [if_pos c2, if_pos (by omega)]; rfl
    · rw [if_neg c2, if_neg (by omega), if_neg (by omega)]; rfl
theorem cntL_map {f:Int→Int}(fr:Int)(l:List Int):aFg fr (l.map f)=(aFg fr l).map f:=by
  unfold aFg
  rw [List.length_map]
  split
  · rw [List.map_tail]
  · rfl
theorem sF {m : gJ} {T P R : Nat} (hg : ∀ k, wfN T P R k → dpN k ≤ 1000000 → 0 ≤ (stp m k).1 ∧ (stp m k).1 ≤ 2) : ∀ (n : Nat) (k : Nd) (no : Bool), dpN k < n → n ≤ 1000000 → wfN T P R k → stp m (dD no k) = (wL no (stp m k).1, dD no (stp m k).2)
  | 0, _, _, h, _, _ => by omega
  | n + 1, k, no, h, hn, hw => by
    cases k with
    | constant t => rw [dD, stp, stp]; rfl
    | number tr op k =>
      rw [dD, stp, stp]
      cases no
      · rfl
      · show (aMj m tr (ctr op) k, _) = _
        rw [numT_ctr]; rfl
    | pair a b da db op =>
      rw [dD, stp, stp]
      cases no
      · rfl
      · show (pairT m a b da db (ctr op), _) = _
        rw [pairT_ctr]; rfl
    | steady tr k fr last => rw [dD, aAs, stp]; rfl
    | phase p => rw [dD, aAs, stp]; rfl
    | rule r => rw [dD, aAs, stp]; rfl
    | not k =>
      rw [dpN] at h
      have hk := hg k hw (by omega)
      rw [dD, sF hg n k (!no) (by omega) (by omega) hw, stp]
      cases no
      · rfl
      · show (_, _) = (opp (opp _), _)
        rw [opp_opp hk]; rfl
    | group ks any =>
      rw [dpN] at h
      have hk : ∀ k ∈ ks, stp m (dD no k) = (wL no (stp m k).1, dD no (stp m k).2) := fun k hm => sF hg n k no (by have := aBh hm; omega) (by omega) (rW.1 hw.1 k hm)
      have ht : ∀ t ∈ (ks.map (stp m)).map Prod.fst, 0 ≤ t ∧ t ≤ 2 := by
        intro t ht
        rw [List.map_map, List.mem_map] at ht
        obtain ⟨k, hm, rfl⟩ := ht
        exact hg k (rW.1 hw.1 k hm) (by have := aBh hm; omega)
      rw [dD, stp, stp, uY, uY, pK]
      have e1 : ((ks.map (dD no)).map (stp m)).map Prod.fst = ((ks.map (stp m)).map Prod.fst).map (wL no) := by
        simp only [List.map_map]
        refine List.map_congr_left fun k hm => ?_
        simp only [Function.comp, hk k hm]
      have e2 : ((ks.map (dD no)).map (stp m)).map Prod.snd = inwL no ((ks.map (stp m)).map Prod.snd) := by
        rw [pK]
        simp only [List.map_map]
        refine List.map_congr_left fun k hm => ?_
        simp only [Function.comp, hk k hm]
      rw [e1, e2]
      show (_, _) = (_, dD no (.group ((ks.map (stp m)).map Prod.snd) any))
      rw [dD]
      congr 1
      cases no
      · rw [show (wL false) = id from rfl, List.map_id]
        cases any <;> rfl
      · rw [show (wL true) = opp from rfl]
        cases any
        · exact aKf (s := 1) (w := 2) (Or.inl ⟨rfl, rfl⟩) _ 2 (by omega) ht
        · exact aKf (s := 2) (w := 1) (Or.inr ⟨rfl, rfl⟩) _ 1 (by omega) ht
    | count k c fr last tot =>
      rw [dpN] at h
      obtain ⟨w1, w2, w3, w4, w5, rfl⟩ := hw
      have hk := hg k w1 (by omega)
      have ih := sF hg n k no (by omega) (by omega) w1
      have e : last.map (wL no) ++ [wL no (stp m k).1] = (last ++ [(stp m k).1]).map (wL no) := by simp
      have hl : ∀ t ∈ last ++ [(stp m k).1], 0 ≤ t ∧ t ≤ 2 := by
        intro t ht
        rcases List.mem_append.1 ht with q | q
        · exact w5 t q
        · obtain rfl := List.mem_singleton.1 q; exact hk
      rw [dD, stp, stp, ih]
      simp only
      rw [e, cntL_map]
      show (_, _) = (_, dD no (.count _ _ _ _ _))
      rw [dD]
      congr 1
      cases no
      · rw [show (wL false) = id from rfl, List.map_id]; rfl
      · rw [show (wL true) = opp from rfl]
        exact cntT_opp hl (by rw [List.length_append, List.length_singleton]; omega)
    | since a b l g =>
      rw [dpN] at h
      obtain ⟨w1, w2, w3⟩ := hw
      have e1 := sF hg n a false (by omega) (by omega) w1
      have e2 := sF hg n b false (by omega) (by omega) w2
      rw [dD, aAs, stp, stp, e1, e2]; rfl
    | rises k l g =>
      rw [dpN] at h
      have e1 := sF hg n k false (by omega) (by omega) hw.1
      rw [dD, aAs, stp, stp, e1]; rfl
end Go.Lf
namespace Go.Lf
mutual
def ndp (D:List Int):Nd→Int
  | .constant _=>1
  | .number _ _ _=>1
  | .pair _ _ _ _ _=>1
  | .steady _ _ fr _=>if fr<1 then -1 else fr
  | .phase _=> -1
  | .rule r=>(at' D r).getD (-1)
  | .not k=>if ndp D k<0 then -1 else ndp D k
  | .group ks _=>if ndpL D ks<0 then -1 else max 1 (ndpL D ks)
  | .count k _ fr _ _=>if ndp D k<0∨fr<1 then -1 else ndp D k+fr - 1
  | .since _ _ _ _=> -1
  | .rises k _ _=>if ndp D k<0 then -1 else ndp D k+1
def ndpL (D:List Int):List Nd→Int
  | []=>0
  | k :: ks=>if ndp D k<0 then -1 else if ndpL D ks<0 then -1 else max (ndp D k) (ndpL D ks)
end
def agr {α:Type}(n:Nat)(l l':List α):Prop:=n≤l.length∧n≤l'.length∧l.drop (l.length - n)=l'.drop (l'.length - n)
inductive Sim (D:List Int) (A:Nat):Nd→Nd→Prop
  | constant (t:Int):Sim D A (.constant t) (.constant t)
  | number (tr op n:Int):Sim D A (.number tr op n) (.number tr op n)
  | pair (a b da db op:Int):Sim D A (.pair a b da db op) (.pair a b da db op)
  | steady (tr n fr:Int) (l l':List eH):agr (min A (fr.toNat - 1)) l l'→Sim D A (.steady tr n fr l) (.steady tr n fr l')
  | phase (p:Int):Sim D A (.phase p) (.phase p)
  | rule (r:Int):Sim D A (.rule r) (.rule r)
  | not (k k':Nd):Sim D A k k'→Sim D A (.not k) (.not k')
  | group (ks ks':List Nd) (any:Bool):ks.length=ks'.length→(∀(i:Nat) k k',ks[i]? =some k→ks'[i]? =some k'→Sim D A k k')→Sim D A (.group ks any) (.group ks' any)
  | count (k k':Nd) (n fr:Int) (l l':List Int) (t t':Arr 3 Int):Sim D A k k'→(0≤ndp D k→agr (min (A+1 - (ndp D k).toNat) (fr.toNat - 1)) l l')→Sim D A (.count k n fr l t) (.count k' n fr l' t')
  | since (a b a' b':Nd) (l l':Int) (g g':Bool):Sim D A (.since a b l g) (.since a' b' l' g')
  | rises (k k':Nd) (l l':Int) (g g':Bool):Sim D A k k'→(0≤ndp D k→ndp D k≤A→l=l')→Sim D A (.rises k l g) (.rises k' l' g')
structure SimM (D:List Int)(A:Nat)(R:Nat)(m m':gJ):Prop where
  t:m.told=m'.told
  p:m.possible.length=m'.possible.length
  r: ∀r:Int,0≤r→r<R→0≤(at' D r).getD (-1)→(at' D r).getD (-1)≤(A:Int)+1→(at' m.rules r).getD 0=(at' m'.rules r).getD 0
end Go.Lf
namespace Go.Lf
def runT (f:Nat→List eH)(w:fF):Nat→List (List Int)×fF
  | 0=>([],w)
  | n+1=>((runT f w n).1++ [(nxt (f n) (runT f w n).2).1],(nxt (f n) (runT f w n).2).2)
theorem aEy (f:Nat→List eH)(w:fF): ∀n,(runT f w n).1.length=n
  | 0=>rfl
  | n+1=>by rw [runT]; simp [aEy f w n]
theorem aKk {f:Nat→List eH}{w:fF}{T P:Nat}(hw:WfW w T P)(hf: ∀k,(f k).length=T): ∀n,WfW (runT f w n).2 T P
  | 0=>hw
  | n+1=>(aQu (aKk hw hf n) (hf n)).2.1
theorem aHd (told:List eH)(w:fF):(nxt told w).2.rules=(rst told (kH told w) [] w.rules).map Prod.snd:=rfl
theorem wP (told:List eH)(w:fF):(nxt told w).1=(rst told (kH told w) [] w.rules).map Prod.fst:=rfl
theorem nxt_get {told:List eH}{w:fF}{i:Nat}{k:Nd}(h:w.rules[i]? =some k):
    (nxt told w).1[i]? =some (stp (gJ.mk told (kH told w) ((nxt told w).1.take i)) k).1∧(nxt told w).2.rules[i]? =some (stp (gJ.mk told (kH told w) ((nxt told w).1.take i)) k).2:=by
  have q:=aDl (told:=told) (ps:=kH told w) w.rules [] i k h
  rw [List.nil_append] at q
  rw [aHd,wP,List.getElem?_map,List.getElem?_map,q,← List.map_take]
  exact ⟨rfl,rfl⟩
theorem aKp (told:List eH)(w:fF):(nxt told w).1.length=w.rules.length∧(nxt told w).2.rules.length=w.rules.length:=by
  rw [aHd,wP,List.length_map,List.length_map,rV]; exact ⟨rfl,rfl⟩
theorem aQm {told:List eH}{w:fF}{T P:Nat}(hw:WfW w T P):(kH told w).length=P:=by
  unfold kH; rw [aFz,List.length_replicate]; exact hw.ph
structure SimW (D:List Int)(A:Nat)(w w':fF):Prop where
  l:w.rules.length=w'.rules.length
  s: ∀(i:Nat) k k',w.rules[i]? =some k→w'.rules[i]? =some k'→Sim D A k k'
  d: ∀(i:Nat) k,w.rules[i]? =some k→ndp D k=(at' D (i:Int)).getD (-1)
end Go.Lf
namespace Go.Lf
def aJx (w:fF):fF:=fF.mk w.phases w.tracks w.moves (w.rules.map (dD false)) w.possible
theorem aQw {told : List eH} {ps : List Bool} (hP : ps.length ≤ 2000000) : ∀ (l : List Nd) (acc : List Int), (∀ t ∈ acc, 0 ≤ t ∧ t ≤ 2) → (∀ (j : Nat) k, l[j]? = some k → wfN told.length ps.length (acc.length + j) k ∧ dpN k ≤ 900000) →
    rst told ps acc (l.map (dD false)) = (rst told ps acc l).map fun x => (x.1, dD false x.2)
  | [], _, _, _ => rfl
  | x :: l, acc, ha, hw => by
    have q := hw 0 x rfl
    have hg : ∀ k, wfN told.length ps.length acc.length k → dpN k ≤ 1000000 → 0 ≤ (stp (gJ.mk told ps acc) k).1 ∧ (stp (gJ.mk told ps acc) k).1 ≤ 2 := fun k hk hd =>
      (aCv (m := gJ.mk told ps acc) (R := acc.length) hP (Nat.le_refl _) ha hd hk).2.1
    have e := sF hg 1000000 x false (by omega) (Nat.le_refl _) q.1
    have o := hg x q.1 (by omega)
    rw [List.map_cons, rst, rst, List.map_cons, e]
    show (_, _) :: _ = (_, _) :: _
    congr 1
    refine aQw hP l _ (fun t ht => ?_) (fun j k hk => ?_)
    · rcases List.mem_append.1 ht with h | h
      · exact ha t h
      · obtain rfl := List.mem_singleton.1 h; exact o
    · have := hw (j + 1) k (by simpa using hk)
      have e : (acc ++ [(stp (gJ.mk told ps acc) x).1]).length + j = acc.length + (j + 1) := by simp; omega
      rw [show (wL false (stp (gJ.mk told ps acc) x).1) = (stp (gJ.mk told ps acc) x).1 from rfl, e]
      exact this
theorem inwW_nxt {told:List eH}{w:fF}{T P:Nat}(hw:WfW w T P)(ht:told.length=T)(hd: ∀k ∈ w.rules,dpN k≤900000):nxt told (aJx w)=((nxt told w).1,aJx (nxt told w).2):=by
  have hpl:=aQm (told:=told) hw
  have e:rst told (kH told w) [] (w.rules.map (dD false))=(rst told (kH told w) [] w.rules).map fun x=>(x.1,dD false x.2):=by
    refine aQw (by rw [hpl]; have:=hw.pb; omega) w.rules [] (by simp) fun j k hk=>⟨?_,hd k (List.mem_of_getElem? hk)⟩
    have:=(hw.ru j k hk).1
    rw [ht,hpl]; simpa using this
  have ep:kH told (aJx w)=kH told w:=rfl
  unfold nxt
  rw [ep]
  show (((rst told (kH told w) [] (w.rules.map (dD false))).map Prod.fst),fF.mk w.phases w.tracks (w.moves.map (mvS (mv0 told))) ((rst told (kH told w) [] (w.rules.map (dD false))).map Prod.snd) (kH told w))=_
  rw [e]
  simp only [List.map_map,aJx]
  rfl
theorem dp_nxt {told:List eH}{w:fF}{T P:Nat}(hw:WfW w T P)(ht:told.length=T){B:Nat}(hB:B≤1000000)(hd: ∀k ∈ w.rules,dpN k≤B): ∀k ∈ (nxt told w).2.rules,dpN k≤B:=by
  have hpl:=aQm (told:=told) hw
  intro x hx
  obtain ⟨i,hi⟩:=List.getElem?_of_mem hx
  have hl:i<w.rules.length:=by rw [← (aKp told w).2]; exact (List.getElem?_eq_some_iff.1 hi).1
  have hk:w.rules[i]? =some w.rules[i]:=List.getElem?_eq_getElem hl
  have o:=aPd (told:=told) (ps:=kH told w) (by rw [hpl]; have:=hw.pb; omega) w.rules [] (by simp) (fun j k h=>by
    have:=hw.ru j k h
    rw [ht,hpl]; simpa using this) i _ hk
  rw [List.nil_append] at o
  rw [(nxt_get hk).2] at hi
  obtain rfl:=Option.some.inj hi
  rw [wP,← List.map_take]
  rw [o.2.2.2]
  exact hd _ (List.mem_of_getElem? hk)
theorem aKt {f:Nat→List eH}{w:fF}{T P:Nat}(hw:WfW w T P)(hf: ∀k,(f k).length=T)(hd: ∀k ∈ w.rules,dpN k≤900000): ∀n,(runT f (aJx w) n).1=(runT f w n).1∧(runT f (aJx w) n).2=aJx (runT f w n).2∧ ∀k ∈ (runT f w n).2.rules,dpN k≤900000
  | 0=>⟨rfl,rfl,hd⟩
  | n+1=>by
    obtain ⟨i1,i2,i3⟩:=aKt hw hf hd n
    have hwn:=aKk hw hf n
    have e:=inwW_nxt hwn (hf n) i3
    rw [runT,runT,i1,i2,e]
    exact ⟨rfl,rfl,dp_nxt hwn (hf n) (by omega) i3⟩
end Go.Lf
namespace Go.Lf
def hon (t t':Int):Prop:=t'=0∨t'=t
def honT (x x':eH):Prop:=x'.Known=false∨x'=x
def pw {α:Type}(R:α→α→Prop)(l l':List α):Prop:=l.length=l'.length∧ ∀(i:Nat) x x',l[i]? =some x→l'[i]? =some x'→R x x'
def big (x:eH):Prop:= -1125899906842624≤x.N∧x.N≤1125899906842624
end Go.Lf
namespace Go.Lf
def sbs (l l':List Bool):Prop:=l.length=l'.length∧ ∀i:Nat,l[i]? =some true→l'[i]? =some true
inductive Hn:Nd→Nd→Prop
  | constant (t:Int):Hn (.constant t) (.constant t)
  | number (tr op n:Int):Hn (.number tr op n) (.number tr op n)
  | pair (a b da db op:Int):Hn (.pair a b da db op) (.pair a b da db op)
  | steady (tr n fr:Int) (l l':List eH):0≤n→pw honT l l'→(∀x ∈ l,big x)→(∀x ∈ l',big x)→Hn (.steady tr n fr l) (.steady tr n fr l')
  | phase (p:Int):Hn (.phase p) (.phase p)
  | rule (r:Int):Hn (.rule r) (.rule r)
  | not (k k':Nd):Hn k k'→Hn (.not k) (.not k')
  | group (ks ks':List Nd) (any:Bool):ks.length=ks'.length→(∀(i:Nat) k k',ks[i]? =some k→ks'[i]? =some k'→Hn k k')→Hn (.group ks any) (.group ks' any)
  | count (k k':Nd) (n fr:Int) (l l':List Int) (t t':Arr 3 Int):Hn k k'→pw hon l l'→Hn (.count k n fr l t) (.count k' n fr l' t')
  | since (a b a' b':Nd) (l l':Int) (g g':Bool):Hn a a'→Hn b b'→hon l l'→Hn (.since a b l g) (.since a' b' l' g')
  | rises (k k':Nd) (l l':Int) (g g':Bool):Hn k k'→hon l l'→Hn (.rises k l g) (.rises k' l' g')
structure HM (m m':gJ):Prop where
  t:pw honT m.told m'.told
  b: ∀x ∈ m.told,big x
  b': ∀x ∈ m'.told,big x
  p:sbs m.possible m'.possible
  n:m.possible≠ []→ ∃i:Nat,m.possible[i]? =some true
  l:m.possible.length≤2000000
  r:pw hon m.rules m'.rules
end Go.Lf
namespace Go.Lf
def some1 (l:List Bool):Prop:= ∃i:Nat,l[i]? =some true
end Go.Lf
namespace Go.Lf
structure HnW (w w':fF):Prop where
  ph:w.phases=w'.phases
  ml:w.moves.length=w'.moves.length
  mv: ∀(i:Nat) x x',w.moves[i]? =some x→w'.moves[i]? =some x'→x.from_=x'.from_∧x.to=x'.to∧Hn x.when x'.when
  rl:w.rules.length=w'.rules.length
  ru: ∀(i:Nat) k k',w.rules[i]? =some k→w'.rules[i]? =some k'→Hn k k'
  po:sbs w.possible w'.possible
  so:w.possible≠ []→some1 w.possible
end Go.Lf
