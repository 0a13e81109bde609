/- Walks: what each function computes, for every argument; no condition but those that stand in the statements. -/
import Derived.Test.YtckmiljbaejijaaGreatDoorNTa
namespace Go.Lf
def stF (s:Int×Int×Int)(x:fV):Int×Int×Int:=
  if x.Known=true then (s.1+1,min (if s.1=0 then x.N else s.2.1) x.N,max (if s.1=0 then x.N else s.2.2) x.N) else s
def stA (l:List fV):Int×Int×Int:=l.foldl stF (0,0,0)
def stT (n fr:Int)(l:List fV):Int:=if n<IntKind.i64.wrap ((stA l).2.2 - (stA l).2.1) then 1 else if (stA l).1=fr then 2 else 0
theorem stA_snoc (l:List fV)(x:fV):stA (l++ [x])=stF (stA l) x:=by unfold stA; rw [List.foldl_append]; rfl
theorem stF_cnt (s:Int×Int×Int)(x:fV):s.1≤(stF s x).1∧(stF s x).1≤s.1+1:=by
  unfold stF
  split
  · exact ⟨by show s.1≤s.1+1; omega,Int.le_refl _⟩
  · omega
theorem aQz: ∀(l:List fV) (s:Int×Int×Int),s.1≤(l.foldl stF s).1∧(l.foldl stF s).1≤s.1+l.length
  | [],s=>by simp
  | x :: l,s=>by
    have h:=aQz l (stF s x)
    have h1:=stF_cnt s x
    rw [List.foldl_cons,List.length_cons]
    omega
theorem aMy (l : List fV) (hl : l.length ≤ 2000000) : Fas l (l.length : Int) (0, 0, 0, 0) = some (stA l) := by
  suffices q : ∃ r, Fas l (l.length : Int) (0, 0, 0, 0) = some r ∧ r = stA l by
    obtain ⟨r, h, rfl⟩ := q
    exact h
  unfold Fas
  refine jP (β := Int × Int × Int) (fun i (s : Int × Int × Int) => (s.1, s.2.1, s.2.2, (i : Int))) l (fun i s => s = stA (l.take i)) (fun r => r = stA l) (by omega) (fun k i s x hx hi hs => ?_) (fun k s hs => ?_) (0, 0, 0) rfl
  · refine ⟨stF s x, by rw [List.take_add_one, hx, hs]; exact (stA_snoc _ _).symm, ?_⟩
    have hc := aQz (l.take i) (0, 0, 0)
    have hc' : 0 ≤ s.1 ∧ s.1 ≤ l.length := by
      rw [hs]; unfold stA
      have : ((l.take i).length : Int) ≤ l.length := by rw [List.length_take]; omega
      simp only at hc; omega
    clear hs hc
    obtain ⟨s1, s2, s3⟩ := s
    simp only [zU, wC]
    rw [if_pos (by omega), wG hx, eQ hi (by omega)]
    simp only [gG]
    unfold stF
    cases x.Known
    · rfl
    · have w : IntKind.i64.wrap (s1 + 1) = s1 + 1 := Go.OB.wrap_i64 (by simp only at hc'; omega) (by simp only at hc'; omega)
      by_cases c : s1 = 0
      · subst c; rfl
      · simp only [c, gQ, if_false, if_true, Bool.not_true, w]
  · refine ⟨stA l, ?_, rfl⟩
    rw [List.take_length] at hs
    obtain ⟨s1, s2, s3⟩ := s
    simp only [zU, wC]
    rw [if_neg (by omega), ← hs]
theorem steady_eq {m:gK}{tr n fr:Int}{last:List fV}{x:fV}(hx:at' m.told tr=some x)(hf:1≤fr∧fr≤1000000)(hl:(last.length:Int)<fr):
    Fao (dD.mk tr n fr last) m=some (stT n fr (last++ [x]),dD.mk tr n fr ((last++ [x]).drop (last.length+2 - fr.toNat))):=by
  unfold Fao
  show gG (at' m.told tr) _=_
  rw [hx]
  have hL:=aMy (last++ [x]) (by simp; omega)
  have hlen:((last++ [x]).length:Int)=last.length+1:=by simp
  have w1:IntKind.i64.wrap (((last++ [x]).length:Int) - fr)=(last.length:Int)+1 - fr:=by rw [hlen]; exact Go.OB.wrap_i64 (by omega) (by omega)
  have w2:IntKind.i64.wrap ((last.length:Int)+1 - fr+1)=(last.length:Int)+1 - fr+1:=Go.OB.wrap_i64 (by omega) (by omega)
  have s0:sub' (last++ [x]) (max 0 ((last.length:Int)+1 - fr+1)) ((last++ [x]).length:Int)=some ((last++ [x]).drop (last.length+2 - fr.toNat)):=by
    unfold sub'
    rw [if_pos ⟨by omega,by omega,by omega⟩]
    congr 1
    rw [show (max 0 ((last.length:Int)+1 - fr+1)).toNat=last.length+2 - fr.toNat by omega]
    rw [List.take_of_length_le]
    rw [List.length_drop]
    omega
  obtain ⟨y,hy⟩: ∃y,y=stA (last++ [x]):=⟨_,rfl⟩
  unfold stT
  rw [← hy] at hL ⊢
  obtain ⟨g1,g2,g3⟩:=y
  simp only [gG,zU,ap16 (l:=last) (x:=x) (by omega),hL,w1,w2,s0,wC]
  split
  · rfl
  · split<;>rfl
theorem aFg {m:gK}{tr n fr:Int}{last:List fV}(ht:0≤tr∧tr<m.told.length)(hf:1≤fr∧fr≤1000000)(hl:(last.length:Int)<fr):
    ∃x,at' m.told tr=some x∧uT m tr n fr last=(stT n fr (last++ [x]),(last++ [x]).drop (last.length+2 - fr.toNat)):=by
  obtain ⟨x,hx⟩:=vM ht
  refine ⟨x,hx,?_⟩
  unfold uT
  rw [steady_eq hx hf hl]
  rfl
end Go.Lf
namespace Go.Lf
mutual
def ndp (D:List Int):Nd→Int
  | .constant _=>1
  | .number _ _ _=>1
  | .pair _ _ _ _ _=>1
  | .steady _ _ fr _=>if fr<1 then -1 else fr
  | .phase _=> -1
  | .rule r=>(at' D r).getD (-1)
  | .not k=>if ndp D k<0 then -1 else ndp D k
  | .group ks _=>if sN D ks<0 then -1 else max 1 (sN D ks)
  | .count k _ fr _ _=>if ndp D k<0∨fr<1 then -1 else ndp D k+fr - 1
  | .since _ _ _ _=> -1
  | .rises k _ _=>if ndp D k<0 then -1 else ndp D k+1
def sN (D:List Int):List Nd→Int
  | []=>0
  | k :: ks=>if ndp D k<0 then -1 else if sN D ks<0 then -1 else max (ndp D k) (sN D ks)
end
mutual
theorem aAu {D:List Int}(hD: ∀r,0≤(at' D r).getD (-1)→1≤(at' D r).getD (-1)): ∀k,0≤ndp D k→1≤ndp D k
  | .constant _,_=>by rw [ndp]; omega
  | .number _ _ _,_=>by rw [ndp]; omega
  | .pair _ _ _ _ _,_=>by rw [ndp]; omega
  | .steady _ _ fr _,h=>by rw [ndp] at h ⊢; split at h<;>omega
  | .phase _,h=>by rw [ndp] at h; omega
  | .rule r,h=>by rw [ndp] at h ⊢; exact hD r h
  | .not k,h=>by
    have:=aAu hD k
    rw [ndp] at h ⊢
    split at h
    · omega
    · rename_i c; rw [if_neg c]; omega
  | .group ks _,h=>by rw [ndp] at h ⊢; split at h<;>omega
  | .count k _ fr _ _,h=>by
    have:=aAu hD k
    rw [ndp] at h ⊢
    split at h
    · omega
    · rename_i c; rw [if_neg c]; have:=this (by omega); omega
  | .since _ _ _ _,h=>by rw [ndp] at h; omega
  | .rises k _ _,h=>by
    rw [ndp] at h ⊢
    split at h
    · omega
    · rename_i c; rw [if_neg c]; omega
end
def agr {α:Type}(n:Nat)(l l':List α):Prop:=n≤l.length∧n≤l'.length∧l.drop (l.length - n)=l'.drop (l'.length - n)
theorem sD {α:Type}(l l':List α):agr 0 l l':=⟨Nat.zero_le _,Nat.zero_le _,by simp⟩
theorem aBb {α : Type} {n : Nat} {l l' : List α} : agr n l l' ↔ ∃ a b c, l = a ++ c ∧ l' = b ++ c ∧ c.length = n := by
  constructor
  · rintro ⟨h1, h2, h3⟩
    refine ⟨l.take (l.length - n), l'.take (l'.length - n), l.drop (l.length - n), by simp, by rw [h3]; simp, by simp; omega⟩
  · rintro ⟨a, b, c, rfl, rfl, rfl⟩
    exact ⟨by simp, by simp, by simp⟩
theorem aKr {α:Type}{n:Nat}{l l':List α}(x:α)(h:agr n l l'):agr (n+1) (l++ [x]) (l'++ [x]):=by
  obtain ⟨a,b,c,rfl,rfl,rfl⟩:=aBb.1 h
  exact aBb.2 ⟨a,b,c++ [x],by simp,by simp,by simp⟩
theorem agr_le {α:Type}{n m:Nat}{l l':List α}(h:agr n l l')(hm:m≤n):agr m l l':=by
  obtain ⟨a,b,c,rfl,rfl,rfl⟩:=aBb.1 h
  exact aBb.2 ⟨a++c.take (c.length - m),b++c.take (c.length - m),c.drop (c.length - m),by simp,by simp,by simp; omega⟩
theorem agr_eq {α:Type}{n:Nat}{l l':List α}(h:agr n l l')(h1:l.length≤n)(h2:l'.length≤n):l=l':=by
  obtain ⟨a,b,c,rfl,rfl,rfl⟩:=aBb.1 h
  have e1:a= []:=List.length_eq_zero_iff.1 (by simp at h1; omega)
  have e2:b= []:=List.length_eq_zero_iff.1 (by simp at h2; omega)
  rw [e1,e2]
theorem aLh {α : Type} {n : Nat} {l l' : List α} (i j : Nat) (h : agr n l l') (h1 : n ≤ l.length - i) (h2 : n ≤ l'.length - j) : agr n (l.drop i) (l'.drop j) := by
  obtain ⟨p, q, r⟩ := h
  refine ⟨by simpa using h1, by simpa using h2, ?_⟩
  rw [List.drop_drop, List.drop_drop, List.length_drop, List.length_drop]
  by_cases z : n = 0
  · subst z
    rw [List.drop_eq_nil_of_le (by omega), List.drop_eq_nil_of_le (by omega)]
  · rw [show i + (l.length - i - n) = l.length - n by omega, show j + (l'.length - j - n) = l'.length - n by omega, r]
inductive Sim (D:List Int) (A:Nat):Nd→Nd→Prop
  | constant (t:Int):Sim D A (.constant t) (.constant t)
  | number (tr op n:Int):Sim D A (.number tr op n) (.number tr op n)
  | pair (a b da db op:Int):Sim D A (.pair a b da db op) (.pair a b da db op)
  | steady (tr n fr:Int) (l l':List fV):agr (min A (fr.toNat - 1)) l l'→Sim D A (.steady tr n fr l) (.steady tr n fr l')
  | phase (p:Int):Sim D A (.phase p) (.phase p)
  | rule (r:Int):Sim D A (.rule r) (.rule r)
  | not (k k':Nd):Sim D A k k'→Sim D A (.not k) (.not k')
  | group (ks ks':List Nd) (any:Bool):ks.length=ks'.length→(∀(i:Nat) k k',ks[i]? =some k→ks'[i]? =some k'→Sim D A k k')→Sim D A (.group ks any) (.group ks' any)
  | count (k k':Nd) (n fr:Int) (l l':List Int) (t t':Arr 3 Int):Sim D A k k'→(0≤ndp D k→agr (min (A+1 - (ndp D k).toNat) (fr.toNat - 1)) l l')→Sim D A (.count k n fr l t) (.count k' n fr l' t')
  | since (a b a' b':Nd) (l l':Int) (g g':Bool):Sim D A (.since a b l g) (.since a' b' l' g')
  | rises (k k':Nd) (l l':Int) (g g':Bool):Sim D A k k'→(0≤ndp D k→ndp D k≤A→l=l')→Sim D A (.rises k l g) (.rises k' l' g')
theorem aLu {D:List Int}{m:gK}: ∀(ks:List Nd),(∀k ∈ ks,ndp D (stp m k).2=ndp D k)→sN D ((ks.map (stp m)).map Prod.snd)=sN D ks
  | [],_=>rfl
  | k :: ks,h=>by
    rw [List.map_cons,List.map_cons,sN,sN,h k List.mem_cons_self,aLu ks fun x hx=>h x (List.mem_cons_of_mem _ hx)]
theorem aAk {D:List Int}{m:gK}: ∀(n:Nat) (k:Nd),dpN k<n→ndp D (stp m k).2=ndp D k
  | 0,_,h=>by omega
  | n+1,k,h=>by
    cases k with
    | constant t=>rw [stp]
    | number tr op k=>rw [stp]
    | pair a b da db op=>rw [stp]
    | steady tr k fr last=>rw [stp]; rfl
    | phase p=>rw [stp]
    | rule r=>rw [stp]
    | not k=>rw [dpN] at h; rw [stp,ndp,ndp,aAk n k (by omega)]
    | group ks any=>
      rw [dpN] at h; rw [stp,nR]
      show ndp D (.group ((ks.map (stp m)).map Prod.snd) any)=_
      rw [ndp,ndp,aLu]
      exact fun k hk=>aAk n k (by have:=aAd hk; omega)
    | count k c fr l t=>rw [dpN] at h; rw [stp]; simp only [ndp]; rw [aAk n k (by omega)]
    | since a b l g=>rw [stp]; rfl
    | rises k l g=>rw [dpN] at h; rw [stp]; simp only [ndp]; rw [aAk n k (by omega)]
theorem aAn {D : List Int} : ∀ {l : List Nd} {x : Nd}, x ∈ l → 0 ≤ sN D l → 0 ≤ ndp D x ∧ ndp D x ≤ sN D l
  | k :: ks, x, h, h0 => by
    rw [sN] at h0 ⊢
    split at h0
    · omega
    · split at h0
      · omega
      · rename_i c1 c2
        rw [if_neg c1, if_neg c2]
        rcases List.mem_cons.1 h with rfl | h
        · omega
        · have := aAn (D := D) h (by omega); omega
structure SimM (D:List Int)(A:Nat)(R:Nat)(m m':gK):Prop where
  t:m.told=m'.told
  p:m.possible.length=m'.possible.length
  r: ∀r:Int,0≤r→r<R→0≤(at' D r).getD (-1)→(at' D r).getD (-1)≤(A:Int)+1→(at' m.rules r).getD 0=(at' m'.rules r).getD 0
end Go.Lf
namespace Go.Lf
theorem numT_told {m m':gK}(h:m.told=m'.told)(tr op n:Int):numT m tr op n=numT m' tr op n:=by
  obtain ⟨a,b,c⟩:=m; obtain ⟨a',b',c'⟩:=m'
  obtain rfl:a=a':=h
  rfl
theorem aOy {m m':gK}(h:m.told=m'.told)(a b da db op:Int):pairT m a b da db op=pairT m' a b da db op:=by
  obtain ⟨x,y,c⟩:=m; obtain ⟨x',y',c'⟩:=m'
  obtain rfl:x=x':=h
  rfl
theorem aHn (fr:Int)(l:List Int):aGs fr l=l.drop (if (l.length:Int)=fr then 1 else 0):=by
  unfold aGs
  split
  · rw [List.drop_one]
  · rw [List.drop_zero]
theorem aAj {D:List Int}{m:gK}(k:Nd):ndp D (stp m k).2=ndp D k:=aAk (dpN k+1) k (Nat.lt_succ_self _)
theorem sim_stp {D : List Int} {A T P R : Nat} {m m' : gK} (hm : SimM D A R m m') (hT : T = m.told.length) {k k' : Nd} (h : Sim D A k k') :
    wfN T P R k → wfN T P R k' → Sim D (A + 1) (stp m k).2 (stp m' k').2 ∧ (0 ≤ ndp D k → ndp D k ≤ (A : Int) + 1 → (stp m k).1 = (stp m' k').1) := by
  induction h with
  | constant t => intro _ _; rw [stp, stp]; exact ⟨.constant t, fun _ _ => rfl⟩
  | number tr op n => intro _ _; rw [stp, stp]; exact ⟨.number tr op n, fun _ _ => numT_told hm.t _ _ _⟩
  | pair a b da db op => intro _ _; rw [stp, stp]; exact ⟨.pair a b da db op, fun _ _ => aOy hm.t _ _ _ _ _⟩
  | steady tr n fr l l' ha =>
    intro h1 h2
    obtain ⟨w1, w2, w3⟩ := h1
    obtain ⟨_, _, v3⟩ := h2
    subst hT
    obtain ⟨x, e1, e2⟩ := aFg (m := m) (n := n) w1 w2 w3
    obtain ⟨x', f1, f2⟩ := aFg (m := m') (n := n) (by rw [← hm.t]; exact w1) w2 v3
    rw [← hm.t, e1] at f1
    obtain rfl := Option.some.inj f1
    rw [stp, stp, e2, f2]
    refine ⟨.steady _ _ _ _ _ ?_, fun _ hd => ?_⟩
    · have q := agr_le (aKr x ha) (m := min (A + 1) (fr.toNat - 1)) (by omega)
      have q1 := ha.1
      have q2 := ha.2.1
      refine aLh _ _ q ?_ ?_
      · rw [List.length_append, List.length_singleton]; omega
      · rw [List.length_append, List.length_singleton]; omega
    · rw [ndp, if_neg (by omega)] at hd
      have : l = l' := agr_eq ha (by omega) (by omega)
      rw [this]
  | phase p => intro _ _; rw [stp, stp]; exact ⟨.phase p, fun h0 _ => by rw [ndp] at h0; omega⟩
  | rule r => intro h1 _; rw [stp, stp]; exact ⟨.rule r, fun h0 h => by rw [ndp] at h0 h; exact hm.r r h1.1 h1.2 h0 h⟩
  | not k k' _ ih =>
    intro h1 h2
    obtain ⟨q1, q2⟩ := ih h1 h2
    rw [stp, stp]
    refine ⟨.not _ _ q1, fun h0 h => ?_⟩
    rw [ndp] at h0 h
    split at h0
    · omega
    · rename_i c; rw [if_neg c] at h; exact congrArg opp (q2 (by omega) h)
  | group ks ks' any hl hs ih =>
    intro h1 h2
    obtain ⟨w1, w2⟩ := h1
    obtain ⟨v1, v2⟩ := h2
    rw [stp, stp, nR, nR]
    refine ⟨.group _ _ _ (by simpa using hl) fun i x x' hx hx' => ?_, fun h0 h => ?_⟩
    · simp only [List.map_map, List.getElem?_map, Option.map_eq_some_iff, Function.comp] at hx hx'
      obtain ⟨k, hk, rfl⟩ := hx
      obtain ⟨k', hk', rfl⟩ := hx'
      exact (ih i k k' hk hk' (nI.1 w1 k (List.mem_of_getElem? hk)) (nI.1 v1 k' (List.mem_of_getElem? hk'))).1
    · rw [ndp] at h0 h
      split at h0
      · omega
      rename_i h0'
      rw [if_neg h0'] at h
      replace h0 : 0 ≤ sN D ks := by omega
      have e : (ks.map (stp m)).map Prod.fst = (ks'.map (stp m')).map Prod.fst := by
        apply List.ext_getElem?
        intro i
        simp only [List.map_map, List.getElem?_map]
        cases hk : ks[i]? with
        | none =>
          have : ks'[i]? = none := by rw [List.getElem?_eq_none_iff] at hk ⊢; omega
          rw [this]; rfl
        | some k =>
          obtain ⟨k', hk'⟩ : ∃ k', ks'[i]? = some k' := ⟨_, List.getElem?_eq_getElem (by rw [← hl]; exact (List.getElem?_eq_some_iff.1 hk).1)⟩
          have hmem := List.mem_of_getElem? hk
          have hd := aAn hmem h0
          rw [hk', Option.map_some, Option.map_some]
          exact congrArg some ((ih i k k' hk hk' (nI.1 w1 k hmem) (nI.1 v1 k' (List.mem_of_getElem? hk'))).2 hd.1 (by omega))
      rw [e]
  | count k k' n fr l l' t t' _ ha ih =>
    intro h1 h2
    obtain ⟨w1, w2, w3, w4, w5, rfl⟩ := h1
    obtain ⟨v1, v2, v3, v4, v5, rfl⟩ := h2
    obtain ⟨q1, q2⟩ := ih w1 v1
    rw [stp, stp]
    refine ⟨.count _ _ _ _ _ _ _ _ q1 fun h0 => ?_, fun h0 h => ?_⟩
    · rw [aAj] at h0 ⊢
      by_cases c : ndp D k ≤ (A : Int) + 1
      · rw [← q2 h0 c]
        have a := ha h0
        have q := agr_le (aKr (stp m k).1 a) (m := min (A + 1 + 1 - (ndp D k).toNat) (fr.toNat - 1)) (by omega)
        have a1 := a.1
        have a2 := a.2.1
        rw [aHn, aHn]
        refine aLh _ _ q ?_ ?_
        · rw [List.length_append, List.length_singleton]; split <;> omega
        · rw [List.length_append, List.length_singleton]; split <;> omega
      · rw [show min (A + 1 + 1 - (ndp D k).toNat) (fr.toNat - 1) = 0 by omega]
        exact sD _ _
    · rw [ndp] at h0 h
      split at h0
      · omega
      · rename_i c
        rw [if_neg c] at h
        have e : l = l' := agr_eq (ha (by omega)) (by omega) (by omega)
        rw [q2 (by omega) (by omega), e]
  | since a b a' b' l l' g g' =>
    intro _ _
    rw [stp, stp]
    exact ⟨.since _ _ _ _ _ _ _ _, fun h0 _ => by rw [ndp] at h0; omega⟩
  | rises k k' l l' g g' _ ha ih =>
    intro h1 h2
    obtain ⟨q1, q2⟩ := ih h1.1 h2.1
    rw [stp, stp]
    refine ⟨.rises _ _ _ _ _ _ q1 fun h0 h => ?_, fun h0 h => ?_⟩
    · rw [aAj] at h0 h
      exact q2 h0 (by omega)
    · rw [ndp] at h0 h
      split at h0
      · omega
      · rename_i c
        rw [if_neg c] at h
        rw [q2 (by omega) (by omega), ha (by omega) (by omega)]
theorem tX {D:List Int}: ∀(n:Nat) (k:Nd),dpN k<n→(∀j,0≤ndp D j→1≤ndp D j)→Sim D 0 k k
  | 0,_,h,_=>by omega
  | n+1,k,h,hp=>by
    cases k with
    | constant t=>exact .constant t
    | number tr op k=>exact .number tr op k
    | pair a b da db op=>exact .pair a b da db op
    | steady tr k fr last=>exact .steady _ _ _ _ _ (by rw [Nat.zero_min]; exact sD _ _)
    | phase p=>exact .phase p
    | rule r=>exact .rule r
    | not k=>rw [dpN] at h; exact .not _ _ (tX n k (by omega) hp)
    | group ks any=>
      rw [dpN] at h
      refine .group _ _ _ rfl fun i k k' hk hk'=>?_
      rw [hk] at hk'
      obtain rfl:=Option.some.inj hk'
      exact tX n k (by have:=aAd (List.mem_of_getElem? hk); omega) hp
    | count k c fr l t=>
      rw [dpN] at h
      refine .count _ _ _ _ _ _ _ _ (tX n k (by omega) hp) fun h0=>?_
      have:=hp k h0
      rw [show min (0+1 - (ndp D k).toNat) (fr.toNat - 1)=0 by omega]
      exact sD _ _
    | since a b l g=>exact .since _ _ _ _ _ _ _ _
    | rises k l g=>
      rw [dpN] at h
      exact .rises _ _ _ _ _ _ (tX n k (by omega) hp) fun _ _=>rfl
theorem sim0_stp {D:List Int}{m:gK}(hp: ∀j,0≤ndp D j→1≤ndp D j){k k':Nd}(h:Sim D 0 k k'):Sim D 0 (stp m k).2 k':=by
  induction h with
  | constant t=>rw [stp]; exact .constant t
  | number tr op n=>rw [stp]; exact .number tr op n
  | pair a b da db op=>rw [stp]; exact .pair a b da db op
  | steady tr n fr l l' ha=>rw [stp]; exact .steady _ _ _ _ _ (by rw [Nat.zero_min]; exact sD _ _)
  | phase p=>rw [stp]; exact .phase p
  | rule r=>rw [stp]; exact .rule r
  | not k k' _ ih=>rw [stp]; exact .not _ _ ih
  | group ks ks' any hl hs ih=>
    rw [stp,nR]
    refine .group _ _ _ (by simpa using hl) fun i x x' hx hx'=>?_
    simp only [List.map_map,List.getElem?_map,Option.map_eq_some_iff,Function.comp] at hx
    obtain ⟨k,hk,rfl⟩:=hx
    exact ih i k x' hk hx'
  | count k k' n fr l l' t t' _ ha ih=>
    rw [stp]
    refine .count _ _ _ _ _ _ _ _ ih fun h0=>?_
    have:=hp _ h0
    rw [show min (0+1 - (ndp D (stp m k).2).toNat) (fr.toNat - 1)=0 by omega]
    exact sD _ _
  | since=>rw [stp]; exact .since _ _ _ _ _ _ _ _
  | rises k k' l l' g g' _ ha ih=>
    rw [stp]
    refine .rises _ _ _ _ _ _ ih fun h0 h1=>?_
    have:=hp _ h0
    omega
end Go.Lf
namespace Go.Lf
def runT (f:Nat→List fV)(w:fD):Nat→List (List Int)×fD
  | 0=>([],w)
  | n+1=>((runT f w n).1++ [(nxt (f n) (runT f w n).2).1],(nxt (f n) (runT f w n).2).2)
theorem aAm (f:Nat→List fV)(w:fD): ∀n,(runT f w n).1.length=n
  | 0=>rfl
  | n+1=>by rw [runT]; simp [aAm f w n]
theorem aLp (f : Nat → List fV) (w : fD) : ∀ (n k : Nat), k < n → (runT f w n).1[k]? = some (nxt (f k) (runT f w k).2).1
  | 0, k, h => by omega
  | n + 1, k, h => by
    have hl := aAm f w n
    rw [runT]
    show ((runT f w n).1 ++ [_])[k]? = _
    by_cases c : k < n
    · rw [List.getElem?_append_left (by omega), aLp f w n k c]
    · obtain rfl : k = n := by omega
      rw [List.getElem?_append_right (by omega), hl]; simp
theorem uM {f:Nat→List fV}{w:fD}{T P:Nat}(hw:WfW w T P)(hf: ∀k,(f k).length=T): ∀n,WfW (runT f w n).2 T P
  | 0=>hw
  | n+1=>(aQn (uM hw hf n) (hf n)).2.1
theorem aHz (told:List fV)(w:fD):(nxt told w).2.rules=(rst told (kJ told w) [] w.rules).map Prod.snd:=rfl
theorem aFh (told:List fV)(w:fD):(nxt told w).1=(rst told (kJ told w) [] w.rules).map Prod.fst:=rfl
theorem qV {told:List fV}{w:fD}{i:Nat}{k:Nd}(h:w.rules[i]? =some k):
    (nxt told w).1[i]? =some (stp (gK.mk told (kJ told w) ((nxt told w).1.take i)) k).1∧(nxt told w).2.rules[i]? =some (stp (gK.mk told (kJ told w) ((nxt told w).1.take i)) k).2:=by
  have q:=aDf (told:=told) (ps:=kJ told w) w.rules [] i k h
  rw [List.nil_append] at q
  rw [aHz,aFh,List.getElem?_map,List.getElem?_map,q,← List.map_take]
  exact ⟨rfl,rfl⟩
theorem jW (told:List fV)(w:fD):(nxt told w).1.length=w.rules.length∧(nxt told w).2.rules.length=w.rules.length:=by
  rw [aHz,aFh,List.length_map,List.length_map,qX]; exact ⟨rfl,rfl⟩
theorem aQk {told:List fV}{w:fD}{T P:Nat}(hw:WfW w T P):(kJ told w).length=P:=by
  unfold kJ; rw [aEe,List.length_replicate]; exact hw.ph
structure aNe (D:List Int)(A:Nat)(w w':fD):Prop where
  l:w.rules.length=w'.rules.length
  s: ∀(i:Nat) k k',w.rules[i]? =some k→w'.rules[i]? =some k'→Sim D A k k'
  d: ∀(i:Nat) k,w.rules[i]? =some k→ndp D k=(at' D (i:Int)).getD (-1)
theorem aRl {α:Type}{l:List α}{i:Nat}{r:Int}(h0:0≤r)(h1:r<i):at' (l.take i) r=at' l r:=by
  unfold at'
  rw [if_pos h0,if_pos h0,List.getElem?_take,if_pos (by omega)]
theorem aLz {D : List Int} {A T P : Nat} {w w' : fD} (hw : WfW w T P) (hw' : WfW w' T P) (hs : aNe D A w w') {told : List fV} (ht : told.length = T) :
    aNe D (A + 1) (nxt told w).2 (nxt told w').2 ∧ ∀ (i : Nat), i < w.rules.length → 0 ≤ (at' D (i : Int)).getD (-1) → (at' D (i : Int)).getD (-1) ≤ (A : Int) + 1 → (nxt told w).1[i]? = (nxt told w').1[i]? := by
  have key : ∀ (n i : Nat), i < n → i < w.rules.length → ∀ k k', w.rules[i]? = some k → w'.rules[i]? = some k' →
      Sim D (A + 1) (stp (gK.mk told (kJ told w) ((nxt told w).1.take i)) k).2 (stp (gK.mk told (kJ told w') ((nxt told w').1.take i)) k').2 ∧ (0 ≤ (at' D (i : Int)).getD (-1) → (at' D (i : Int)).getD (-1) ≤ (A : Int) + 1 → (nxt told w).1[i]? = (nxt told w').1[i]?) := by
    intro n
    induction n with
    | zero => intro i h; omega
    | succ n ih =>
      intro i hi hl k k' hk hk'
      have hm : SimM D A i (gK.mk told (kJ told w) ((nxt told w).1.take i)) (gK.mk told (kJ told w') ((nxt told w').1.take i)) := by
        refine ⟨rfl, ?_, fun r h0 h1 d0 d1 => ?_⟩
        · show (kJ told w).length = (kJ told w').length
          rw [aQk hw, aQk hw']
        · show (at' ((nxt told w).1.take i) r).getD 0 = (at' ((nxt told w').1.take i) r).getD 0
          rw [aRl h0 h1, aRl h0 h1]
          obtain ⟨j, rfl⟩ : ∃ j : Nat, r = j := ⟨r.toNat, by omega⟩
          have hj : j < w.rules.length := by omega
          have e := (ih j (by omega) hj w.rules[j] (w'.rules[j]'(by rw [← hs.l]; exact hj)) (List.getElem?_eq_getElem _) (List.getElem?_eq_getElem _)).2 d0 d1
          rw [rC, rC, e]
      have q := sim_stp (T := T) (P := P) (R := i) hm ht.symm (hs.s i k k' hk hk') (hw.ru i k hk).1 (hw'.ru i k' hk').1
      refine ⟨q.1, fun d0 d1 => ?_⟩
      rw [(qV hk).1, (qV hk').1]
      rw [← hs.d i k hk] at d0 d1
      exact congrArg some (q.2 d0 d1)
  have get' : ∀ (i : Nat) k, w.rules[i]? = some k → ∃ k', w'.rules[i]? = some k' := fun i k hk => ⟨_, List.getElem?_eq_getElem (by rw [← hs.l]; exact (List.getElem?_eq_some_iff.1 hk).1)⟩
  refine ⟨⟨by rw [(jW told w).2, (jW told w').2]; exact hs.l, fun i x x' hx hx' => ?_, fun i x hx => ?_⟩, fun i hi d0 d1 => ?_⟩
  · have hi : i < w.rules.length := by rw [← (jW told w).2]; exact (List.getElem?_eq_some_iff.1 hx).1
    obtain ⟨k', hk'⟩ := get' i _ (List.getElem?_eq_getElem hi)
    rw [(qV (List.getElem?_eq_getElem hi)).2] at hx
    rw [(qV hk').2] at hx'
    obtain rfl := Option.some.inj hx
    obtain rfl := Option.some.inj hx'
    exact (key (i + 1) i (Nat.lt_succ_self _) hi _ k' (List.getElem?_eq_getElem hi) hk').1
  · have hi : i < w.rules.length := by rw [← (jW told w).2]; exact (List.getElem?_eq_some_iff.1 hx).1
    rw [(qV (List.getElem?_eq_getElem hi)).2] at hx
    obtain rfl := Option.some.inj hx
    rw [aAj]
    exact hs.d i _ (List.getElem?_eq_getElem hi)
  · obtain ⟨k', hk'⟩ := get' i _ (List.getElem?_eq_getElem hi)
    exact (key (i + 1) i (Nat.lt_succ_self _) hi _ k' (List.getElem?_eq_getElem hi) hk').2 d0 d1
theorem simW_zero {D : List Int} {w w' : fD} (hp : ∀ j, 0 ≤ ndp D j → 1 ≤ ndp D j) (hs : aNe D 0 w w') (told : List fV) : aNe D 0 (nxt told w).2 w' := by
  refine ⟨by rw [(jW told w).2]; exact hs.l, fun i x x' hx hx' => ?_, fun i x hx => ?_⟩
  · have hi : i < w.rules.length := by rw [← (jW told w).2]; exact (List.getElem?_eq_some_iff.1 hx).1
    rw [(qV (List.getElem?_eq_getElem hi)).2] at hx
    obtain rfl := Option.some.inj hx
    exact sim0_stp hp (hs.s i _ x' (List.getElem?_eq_getElem hi) hx')
  · have hi : i < w.rules.length := by rw [← (jW told w).2]; exact (List.getElem?_eq_some_iff.1 hx).1
    rw [(qV (List.getElem?_eq_getElem hi)).2] at hx
    obtain rfl := Option.some.inj hx
    rw [aAj]
    exact hs.d i _ (List.getElem?_eq_getElem hi)
theorem depth_run {D:List Int}{T P:Nat}{w:fD}(hD: ∀r,0≤(at' D r).getD (-1)→1≤(at' D r).getD (-1))(hw:WfW w T P)(hd: ∀(i:Nat) k,w.rules[i]? =some k→ndp D k=(at' D (i:Int)).getD (-1))
    {f g:Nat→List fV}(hf: ∀k,(f k).length=T)(off:Nat)(hg: ∀k,g k=f (off+k))(i n:Nat)(hi:i<w.rules.length)(hn:(at' D (i:Int)).getD (-1)=(n:Int)+1):
    (nxt (f (off+n)) (runT f w (off+n)).2).1[i]? =(nxt (g n) (runT g w n).2).1[i]? :=by
  have hp:=aAu hD
  have h0: ∀m,aNe D 0 (runT f w m).2 w:=by
    intro m
    induction m with
    | zero=>show aNe D 0 w w; exact ⟨rfl,fun i k k' h h'=>by rw [h] at h'; obtain rfl:=Option.some.inj h'; exact tX (dpN k+1) k (Nat.lt_succ_self _) hp,hd⟩
    | succ m ih=>exact simW_zero hp ih (f m)
  have hg': ∀k,(g k).length=T:=fun k=>by rw [hg]; exact hf _
  have h1: ∀m,aNe D m (runT f w (off+m)).2 (runT g w m).2:=by
    intro m
    induction m with
    | zero=>exact h0 off
    | succ m ih=>
      have:=(aLz (uM hw hf (off+m)) (uM hw hg' m) ih (hf (off+m))).1
      show aNe D (m+1) (nxt (f (off+m)) (runT f w (off+m)).2).2 (nxt (g m) (runT g w m).2).2
      rw [hg]; exact this
  have hl:(runT f w (off+n)).2.rules.length=w.rules.length:=by rw [(h0 (off+n)).l]
  have:=(aLz (uM hw hf (off+n)) (uM hw hg' n) (h1 n) (hf (off+n))).2 i (by rw [hl]; exact hi) (by omega) (by omega)
  rw [this,hg]
end Go.Lf
namespace Go.Lf
def hon (t t':Int):Prop:=t'=0∨t'=t
def honT (x x':fV):Prop:=x'.Known=false∨x'=x
def pw {α:Type}(R:α→α→Prop)(l l':List α):Prop:=l.length=l'.length∧ ∀(i:Nat) x x',l[i]? =some x→l'[i]? =some x'→R x x'
def big (x:fV):Prop:= -1125899906842624≤x.N∧x.N≤1125899906842624
end Go.Lf
namespace Go.Lf
def sbs (l l':List Bool):Prop:=l.length=l'.length∧ ∀i:Nat,l[i]? =some true→l'[i]? =some true
inductive Hn:Nd→Nd→Prop
  | constant (t:Int):Hn (.constant t) (.constant t)
  | number (tr op n:Int):Hn (.number tr op n) (.number tr op n)
  | pair (a b da db op:Int):Hn (.pair a b da db op) (.pair a b da db op)
  | steady (tr n fr:Int) (l l':List fV):0≤n→pw honT l l'→(∀x ∈ l,big x)→(∀x ∈ l',big x)→Hn (.steady tr n fr l) (.steady tr n fr l')
  | phase (p:Int):Hn (.phase p) (.phase p)
  | rule (r:Int):Hn (.rule r) (.rule r)
  | not (k k':Nd):Hn k k'→Hn (.not k) (.not k')
  | group (ks ks':List Nd) (any:Bool):ks.length=ks'.length→(∀(i:Nat) k k',ks[i]? =some k→ks'[i]? =some k'→Hn k k')→Hn (.group ks any) (.group ks' any)
  | count (k k':Nd) (n fr:Int) (l l':List Int) (t t':Arr 3 Int):Hn k k'→pw hon l l'→Hn (.count k n fr l t) (.count k' n fr l' t')
  | since (a b a' b':Nd) (l l':Int) (g g':Bool):Hn a a'→Hn b b'→hon l l'→Hn (.since a b l g) (.since a' b' l' g')
  | rises (k k':Nd) (l l':Int) (g g':Bool):Hn k k'→hon l l'→Hn (.rises k l g) (.rises k' l' g')
structure HM (m m':gK):Prop where
  t:pw honT m.told m'.told
  b: ∀x ∈ m.told,big x
  b': ∀x ∈ m'.told,big x
  p:sbs m.possible m'.possible
  n:m.possible≠ []→ ∃i:Nat,m.possible[i]? =some true
  l:m.possible.length≤2000000
  r:pw hon m.rules m'.rules
end Go.Lf
namespace Go.Lf
def some1 (l:List Bool):Prop:= ∃i:Nat,l[i]? =some true
end Go.Lf
namespace Go.Lf
structure HnW (w w':fD):Prop where
  ph:w.phases=w'.phases
  ml:w.moves.length=w'.moves.length
  mv: ∀(i:Nat) x x',w.moves[i]? =some x→w'.moves[i]? =some x'→x.from_=x'.from_∧x.to=x'.to∧Hn x.when x'.when
  rl:w.rules.length=w'.rules.length
  ru: ∀(i:Nat) k k',w.rules[i]? =some k→w'.rules[i]? =some k'→Hn k k'
  po:sbs w.possible w'.possible
  so:w.possible≠ []→some1 w.possible
end Go.Lf
