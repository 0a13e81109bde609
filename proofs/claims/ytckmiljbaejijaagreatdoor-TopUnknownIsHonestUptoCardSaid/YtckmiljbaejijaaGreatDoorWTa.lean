/- Walks: what each function computes, for every argument; no condition but those that stand in the statements. -/
import Derived.Test.YtckmiljbaejijaaGreatDoorNTa
namespace Go.Lf
def cmpB (op c:Int):Bool:=(Faw op c).getD false
theorem compares_eq (op c:Int):Faw op c=some (cmpB op c):=by
  obtain ⟨b,h⟩:=compares_ex op c
  unfold cmpB; rw [h]; rfl
def trB (b:Bool):Int:=if b=true then 2 else 1
theorem truthOf_eq (b:Bool):Fbi b=some (trB b):=by cases b<;>rfl
theorem numT_eq (m : gG) (tr op n : Int) : numT m tr op n = match at' m.told tr with
    | some x => if x.Known = true then trB (cmpB op ((Fai (IntKind.i64.wrap (x.N - n))).getD 0)) else 0
    | none => 0 := by
  unfold numT Fas
  show Option.getD (gB (at' m.told tr) _) 0 = _
  cases at' m.told tr with
  | none => rfl
  | some x =>
    simp only [gB, zU]
    cases x.Known
    · rfl
    · obtain ⟨s, h1, -⟩ := sign_ex (IntKind.i64.wrap (x.N - n))
      simp only [gK, Bool.not_true, h1, compares_eq, truthOf_eq, if_true]
      rfl
theorem pairT_eq (m:gG)(a b da db op:Int):pairT m a b da db op=match at' m.told a,at' m.told b with
    | some x,some y=>if x.Known=true∧y.Known=true then trB (cmpB op ((Fba x.N da y.N db).getD 0)) else 0
    | _,_=>0:=by
  unfold pairT Fay
  show Option.getD (gB (at' m.told a) fun x=>gB (at' m.told b) _) 0=_
  cases at' m.told a with
  | none=>rfl
  | some x=>
    cases at' m.told b with
    | none=>rfl
    | some y=>
      obtain ⟨s,h1⟩:=cf_ex x.N da y.N db
      simp only [gB,zU]
      cases x.Known<;>cases y.Known<;>simp [gK,h1,compares_eq,truthOf_eq]
theorem cnt_both (l : List Int) : cnt 1 l + cnt 2 l ≤ l.length := by
  induction l with
  | nil => simp [cnt]
  | cons a l ih =>
    rw [cnt_cons, cnt_cons, List.length_cons]
    by_cases h1 : a = 1
    · subst h1; simp; omega
    · by_cases h2 : a = 2
      · subst h2; simp; omega
      · simp [h1, h2]; omega
end Go.Lf
namespace Go.Lf
def stF (s:Int×Int×Int)(x:fO):Int×Int×Int:=
  if x.Known=true then (s.1+1,min (if s.1=0 then x.N else s.2.1) x.N,max (if s.1=0 then x.N else s.2.2) x.N) else s
def stA (l:List fO):Int×Int×Int:=l.foldl stF (0,0,0)
def stT (n fr:Int)(l:List fO):Int:=if n<IntKind.i64.wrap ((stA l).2.2 - (stA l).2.1) then 1 else if (stA l).1=fr then 2 else 0
theorem stA_snoc (l:List fO)(x:fO):stA (l++ [x])=stF (stA l) x:=by unfold stA; rw [List.foldl_append]; rfl
theorem stF_cnt (s:Int×Int×Int)(x:fO):s.1≤(stF s x).1∧(stF s x).1≤s.1+1:=by
  unfold stF
  split
  · exact ⟨by show s.1≤s.1+1; omega,Int.le_refl _⟩
  · omega
theorem stA_cnt: ∀(l:List fO) (s:Int×Int×Int),s.1≤(l.foldl stF s).1∧(l.foldl stF s).1≤s.1+l.length
  | [],s=>by simp
  | x :: l,s=>by
    have h:=stA_cnt l (stF s x)
    have h1:=stF_cnt s x
    rw [List.foldl_cons,List.length_cons]
    omega
theorem steady_fold (l : List fO) (hl : l.length ≤ 2000000) : Fcp l (l.length : Int) (0, 0, 0, 0) = some (stA l) := by
  have q := loopO_inv (β := Int × Int × Int) (fun i (s : Int × Int × Int) => (s.1, s.2.1, s.2.2, (i : Int))) l (fun i s => s = stA (l.take i)) (fun r => r = stA l) (by omega)
    (body := fun k355 ⟨g347, g348, g349, g350⟩ => gJ (decide (g350 < (l.length : Int))) fun x359 =>
      gK x359
      (gB (gB (at' l g350) fun x424 =>
      gJ (!x424.Known) fun x447 =>
      gK x447
      (some (g347, g348, g349))
      (gB (gJ (decide (g347 = 0)) fun x467 =>
      gK x467
      (some (x424.N, x424.N))
      (some (g348, g349))) fun ⟨g460, g461⟩ =>
      gJ (IntKind.i64.wrap (g347 + 1)) fun x477 =>
      gJ (min g460 x424.N : Int) fun x479 =>
      gJ (max g461 x424.N : Int) fun x481 =>
      some (x477, x479, x481))) fun ⟨g416, g417, g418⟩ =>
      gJ (IntKind.i64.wrap (g350 + 1)) fun x484 =>
      k355 (g416, g417, g418, x484))
      (some (g347, g348, g349))) (fun k i s x hx hi hs => ?_) (fun k s hs => ?_) (0, 0, 0) rfl
  · obtain ⟨r, h, rfl⟩ := q
    exact h
  · refine ⟨stF s x, by rw [List.take_add_one, hx, hs]; exact (stA_snoc _ _).symm, ?_⟩
    have hc := stA_cnt (l.take i) (0, 0, 0)
    have hc' : 0 ≤ s.1 ∧ s.1 ≤ l.length := by
      rw [hs]; unfold stA
      have : ((l.take i).length : Int) ≤ l.length := by rw [List.length_take]; omega
      simp only at hc; omega
    clear hs hc
    obtain ⟨s1, s2, s3⟩ := s
    simp only [zU, xQ]
    rw [if_pos (by omega), wF hx, eH hi (by omega)]
    simp only [gB]
    unfold stF
    cases x.Known
    · rfl
    · have w : IntKind.i64.wrap (s1 + 1) = s1 + 1 := Go.OB.wrap_i64 (by simp only at hc'; omega) (by simp only at hc'; omega)
      by_cases c : s1 = 0
      · subst c; rfl
      · simp only [c, gK, if_false, if_true, Bool.not_true, w]
  · refine ⟨stA l, ?_, rfl⟩
    rw [List.take_length] at hs
    obtain ⟨s1, s2, s3⟩ := s
    simp only [zU, xQ]
    rw [if_neg (by omega), ← hs]
theorem steady_eq {m:gG}{tr n fr:Int}{last:List fO}{x:fO}(hx:at' m.told tr=some x)(hf:1≤fr∧fr≤1000000)(hl:(last.length:Int)<fr):
    Fao (eQ.mk tr n fr last) m=some (stT n fr (last++ [x]),eQ.mk tr n fr ((last++ [x]).drop (last.length+2 - fr.toNat))):=by
  unfold Fao
  show gB (at' m.told tr) _=_
  rw [hx]
  have hL:=steady_fold (last++ [x]) (by simp; omega)
  have hlen:((last++ [x]).length:Int)=last.length+1:=by simp
  have w1:IntKind.i64.wrap (((last++ [x]).length:Int) - fr)=(last.length:Int)+1 - fr:=by rw [hlen]; exact Go.OB.wrap_i64 (by omega) (by omega)
  have w2:IntKind.i64.wrap ((last.length:Int)+1 - fr+1)=(last.length:Int)+1 - fr+1:=Go.OB.wrap_i64 (by omega) (by omega)
  have s0:sub' (last++ [x]) (max 0 ((last.length:Int)+1 - fr+1)) ((last++ [x]).length:Int)=some ((last++ [x]).drop (last.length+2 - fr.toNat)):=by
    unfold sub'
    rw [if_pos ⟨by omega,by omega,by omega⟩]
    congr 1
    rw [show (max 0 ((last.length:Int)+1 - fr+1)).toNat=last.length+2 - fr.toNat by omega]
    rw [List.take_of_length_le]
    rw [List.length_drop]
    omega
  obtain ⟨y,hy⟩: ∃y,y=stA (last++ [x]):=⟨_,rfl⟩
  unfold stT
  rw [← hy] at hL ⊢
  obtain ⟨g1,g2,g3⟩:=y
  simp only [gB,zU,ap16 (l:=last) (x:=x) (by omega),hL,w1,w2,s0,xQ]
  split
  · rfl
  · split<;>rfl
theorem steadyT_eq {m:gG}{tr n fr:Int}{last:List fO}(ht:0≤tr∧tr<m.told.length)(hf:1≤fr∧fr≤1000000)(hl:(last.length:Int)<fr):
    ∃x,at' m.told tr=some x∧steadyT m tr n fr last=(stT n fr (last++ [x]),(last++ [x]).drop (last.length+2 - fr.toNat)):=by
  obtain ⟨x,hx⟩:=at_ex ht
  refine ⟨x,hx,?_⟩
  unfold steadyT
  rw [steady_eq hx hf hl]
  rfl
end Go.Lf
namespace Go.Lf
mutual
def ndp (D:List Int):Nd→Int
  | .constant _=>1
  | .number _ _ _=>1
  | .pair _ _ _ _ _=>1
  | .steady _ _ fr _=>if fr<1 then -1 else fr
  | .phase _=> -1
  | .rule r=>(at' D r).getD (-1)
  | .not k=>if ndp D k<0 then -1 else ndp D k
  | .group ks _=>if ndpL D ks<0 then -1 else max 1 (ndpL D ks)
  | .count k _ fr _ _=>if ndp D k<0∨fr<1 then -1 else ndp D k+fr - 1
  | .since _ _ _ _=> -1
  | .rises k _ _=>if ndp D k<0 then -1 else ndp D k+1
def ndpL (D:List Int):List Nd→Int
  | []=>0
  | k :: ks=>if ndp D k<0 then -1 else if ndpL D ks<0 then -1 else max (ndp D k) (ndpL D ks)
end
def agr {α:Type}(n:Nat)(l l':List α):Prop:=n≤l.length∧n≤l'.length∧l.drop (l.length - n)=l'.drop (l'.length - n)
inductive Sim (D:List Int) (A:Nat):Nd→Nd→Prop
  | constant (t:Int):Sim D A (.constant t) (.constant t)
  | number (tr op n:Int):Sim D A (.number tr op n) (.number tr op n)
  | pair (a b da db op:Int):Sim D A (.pair a b da db op) (.pair a b da db op)
  | steady (tr n fr:Int) (l l':List fO):agr (min A (fr.toNat - 1)) l l'→Sim D A (.steady tr n fr l) (.steady tr n fr l')
  | phase (p:Int):Sim D A (.phase p) (.phase p)
  | rule (r:Int):Sim D A (.rule r) (.rule r)
  | not (k k':Nd):Sim D A k k'→Sim D A (.not k) (.not k')
  | group (ks ks':List Nd) (any:Bool):ks.length=ks'.length→(∀(i:Nat) k k',ks[i]? =some k→ks'[i]? =some k'→Sim D A k k')→Sim D A (.group ks any) (.group ks' any)
  | count (k k':Nd) (n fr:Int) (l l':List Int) (t t':Arr 3 Int):Sim D A k k'→(0≤ndp D k→agr (min (A+1 - (ndp D k).toNat) (fr.toNat - 1)) l l')→Sim D A (.count k n fr l t) (.count k' n fr l' t')
  | since (a b a' b':Nd) (l l':Int) (g g':Bool):Sim D A (.since a b l g) (.since a' b' l' g')
  | rises (k k':Nd) (l l':Int) (g g':Bool):Sim D A k k'→(0≤ndp D k→ndp D k≤A→l=l')→Sim D A (.rises k l g) (.rises k' l' g')
structure SimM (D:List Int)(A:Nat)(R:Nat)(m m':gG):Prop where
  t:m.told=m'.told
  p:m.possible.length=m'.possible.length
  r: ∀r:Int,0≤r→r<R→0≤(at' D r).getD (-1)→(at' D r).getD (-1)≤(A:Int)+1→(at' m.rules r).getD 0=(at' m'.rules r).getD 0
end Go.Lf
namespace Go.Lf
def runT (f:Nat→List fO)(w:gY):Nat→List (List Int)×gY
  | 0=>([],w)
  | n+1=>((runT f w n).1++ [(nxt (f n) (runT f w n).2).1],(nxt (f n) (runT f w n).2).2)
theorem runT_len (f:Nat→List fO)(w:gY): ∀n,(runT f w n).1.length=n
  | 0=>rfl
  | n+1=>by rw [runT]; simp [runT_len f w n]
theorem runT_get (f : Nat → List fO) (w : gY) : ∀ (n k : Nat), k < n → (runT f w n).1[k]? = some (nxt (f k) (runT f w k).2).1
  | 0, k, h => by omega
  | n + 1, k, h => by
    have hl := runT_len f w n
    rw [runT]
    show ((runT f w n).1 ++ [_])[k]? = _
    by_cases c : k < n
    · rw [List.getElem?_append_left (by omega), runT_get f w n k c]
    · obtain rfl : k = n := by omega
      rw [List.getElem?_append_right (by omega), hl]; simp
theorem runT_wf {f:Nat→List fO}{w:gY}{T P:Nat}(hw:WfW w T P)(hf: ∀k,(f k).length=T): ∀n,WfW (runT f w n).2 T P
  | 0=>hw
  | n+1=>(next_ok (runT_wf hw hf n) (hf n)).2.1
theorem nxt_rules (told:List fO)(w:gY):(nxt told w).2.rules=(rst told (bC told w) [] w.rules).map Prod.snd:=rfl
theorem nxt_truths (told:List fO)(w:gY):(nxt told w).1=(rst told (bC told w) [] w.rules).map Prod.fst:=rfl
theorem nxt_get {told:List fO}{w:gY}{i:Nat}{k:Nd}(h:w.rules[i]? =some k):
    (nxt told w).1[i]? =some (stp (gG.mk told (bC told w) ((nxt told w).1.take i)) k).1∧(nxt told w).2.rules[i]? =some (stp (gG.mk told (bC told w) ((nxt told w).1.take i)) k).2:=by
  have q:=rst_get (told:=told) (ps:=bC told w) w.rules [] i k h
  rw [List.nil_append] at q
  rw [nxt_rules,nxt_truths,List.getElem?_map,List.getElem?_map,q,← List.map_take]
  exact ⟨rfl,rfl⟩
theorem aV (told:List fO)(w:gY):(nxt told w).1.length=w.rules.length∧(nxt told w).2.rules.length=w.rules.length:=by
  rw [nxt_rules,nxt_truths,List.length_map,List.length_map,rst_len]; exact ⟨rfl,rfl⟩
theorem wfW_phl {told:List fO}{w:gY}{T P:Nat}(hw:WfW w T P):(bC told w).length=P:=by
  unfold bC; rw [poss_len,List.length_replicate]; exact hw.ph
structure SimW (D:List Int)(A:Nat)(w w':gY):Prop where
  l:w.rules.length=w'.rules.length
  s: ∀(i:Nat) k k',w.rules[i]? =some k→w'.rules[i]? =some k'→Sim D A k k'
  d: ∀(i:Nat) k,w.rules[i]? =some k→ndp D k=(at' D (i:Int)).getD (-1)
end Go.Lf
namespace Go.Lf
def hon (t t':Int):Prop:=t'=0∨t'=t
def honT (x x':fO):Prop:=x'.Known=false∨x'=x
def pw {α:Type}(R:α→α→Prop)(l l':List α):Prop:=l.length=l'.length∧ ∀(i:Nat) x x',l[i]? =some x→l'[i]? =some x'→R x x'
theorem pw_nil {α:Type}{R:α→α→Prop}:pw R [] []:=⟨rfl,fun _ _ _ h=>by simp at h⟩
theorem pw_cons {α : Type} {R : α → α → Prop} {x x' : α} {l l' : List α} : pw R (x :: l) (x' :: l') ↔ R x x' ∧ pw R l l' := by
  constructor
  · rintro ⟨h1, h2⟩
    exact ⟨h2 0 x x' rfl rfl, by simpa using h1, fun i y y' hy hy' => h2 (i + 1) y y' (by simpa using hy) (by simpa using hy')⟩
  · rintro ⟨h1, h2, h3⟩
    refine ⟨by simp [h2], fun i y y' hy hy' => ?_⟩
    cases i with
    | zero => obtain rfl : x = y := by simpa using hy
              obtain rfl : x' = y' := by simpa using hy'
              exact h1
    | succ i => exact h3 i y y' (by simpa using hy) (by simpa using hy')
theorem pw_ind {α:Type}{R:α→α→Prop}{M:List α→List α→Prop}(h0:M [] [])(hc: ∀x x' l l',R x x'→pw R l l'→M l l'→M (x :: l) (x' :: l')): ∀{l l':List α},pw R l l'→M l l'
  | [],[],_=>h0
  | [],_ :: _,h=>by have:=h.1; simp at this
  | _ :: _,[],h=>by have:=h.1; simp at this
  | x :: l,x' :: l',h=>by
    have q:=pw_cons.1 h
    exact hc x x' l l' q.1 q.2 (pw_ind h0 hc q.2)
theorem pw_snoc {α : Type} {R : α → α → Prop} {x x' : α} {l l' : List α} (h : pw R l l') (hx : R x x') : pw R (l ++ [x]) (l' ++ [x']) := by
  refine pw_ind (M := fun l l' => pw R (l ++ [x]) (l' ++ [x'])) ?_ ?_ h
  · exact pw_cons.2 ⟨hx, pw_nil⟩
  · intro y y' m m' h1 _ h3
    exact pw_cons.2 ⟨h1, h3⟩
theorem pw_drop {α:Type}{R:α→α→Prop}(n:Nat){l l':List α}(h:pw R l l'):pw R (l.drop n) (l'.drop n):=by
  refine ⟨by simp [h.1],fun i x x' hx hx'=>?_⟩
  rw [List.getElem?_drop] at hx hx'
  exact h.2 _ x x' hx hx'
def big (x:fO):Prop:= -1125899906842624≤x.N∧x.N≤1125899906842624
def stR (s s':Int×Int×Int):Prop:=
  (0≤s'.1∧s'.1≤s.1)∧(s'.1=0→s'.2=(0,0))∧(0<s'.1→s.2.1≤s'.2.1∧s'.2.2≤s.2.2)∧
  (-1125899906842624≤s.2.1∧s.2.1≤1125899906842624∧ -1125899906842624≤s.2.2∧s.2.2≤1125899906842624)∧(-1125899906842624≤s'.2.1∧s'.2.1≤1125899906842624∧ -1125899906842624≤s'.2.2∧s'.2.2≤1125899906842624)
theorem stR_step {s s' : Int × Int × Int} {x x' : fO} (h : stR s s') (hx : honT x x') (hb : big x) (hb' : big x') : stR (stF s x) (stF s' x') := by
  obtain ⟨s1, s2, s3⟩ := s
  obtain ⟨r1, r2, r3⟩ := s'
  obtain ⟨h1, h2, h3, h4, h5⟩ := h
  unfold big at hb hb'
  simp only [Prod.mk.injEq] at h1 h2 h3 h4 h5
  unfold stF
  rcases hx with hx | rfl
  · rw [if_neg (show ¬ x'.Known = true by rw [hx]; simp)]
    cases x.Known
    · rw [if_neg (by simp)]; exact ⟨h1, by simpa using h2, h3, h4, h5⟩
    · rw [if_pos rfl]
      refine ⟨by simp only; omega, by simpa using h2, fun c => ?_, ?_, h5⟩
      · have := h3 c
        simp only at *
        rw [if_neg (by omega), if_neg (by omega)]; omega
      · simp only
        split <;> omega
  · cases x'.Known
    · rw [if_neg (by simp), if_neg (by simp)]; exact ⟨h1, by simpa using h2, h3, h4, h5⟩
    · rw [if_pos rfl, if_pos rfl]
      refine ⟨by simp only; omega, fun c => by simp only at c; omega, fun c => ?_, ?_, ?_⟩
      · simp only at *
        by_cases z : r1 = 0
        · by_cases y : s1 = 0
          · simp only [z, y, if_true]; omega
          · simp only [z, y, if_true, if_false]; omega
        · have := h3 (by omega)
          have y : ¬ s1 = 0 := by omega
          simp only [z, y, if_false]; omega
      · simp only
        split <;> omega
      · simp only
        split <;> omega
theorem stA_R {l l' : List fO} (h : pw honT l l') : (∀ x ∈ l, big x) → (∀ x ∈ l', big x) → ∀ s s', stR s s' → stR (l.foldl stF s) (l'.foldl stF s') := by
  refine pw_ind (M := fun l l' => (∀ x ∈ l, big x) → (∀ x ∈ l', big x) → ∀ s s', stR s s' → stR (l.foldl stF s) (l'.foldl stF s')) ?_ ?_ h
  · intro _ _ s s' hs; exact hs
  · intro x x' m m' h1 _ ih b b' s s' hs
    rw [List.foldl_cons, List.foldl_cons]
    exact ih (fun y hy => b y (List.mem_cons_of_mem _ hy)) (fun y hy => b' y (List.mem_cons_of_mem _ hy)) _ _ (stR_step hs h1 (b x List.mem_cons_self) (b' x' List.mem_cons_self))
theorem all_known: ∀(l:List fO) (s:Int×Int×Int),(l.foldl stF s).1=s.1+l.length→ ∀x ∈ l,x.Known=true
  | [],_,_,x,hx=>by simp at hx
  | y :: l,s,h,x,hx=>by
    rw [List.foldl_cons,List.length_cons] at h
    have c:=stA_cnt l (stF s y)
    have c1:=stF_cnt s y
    have hy:(stF s y).1=s.1+1:=by omega
    have ky:y.Known=true:=by
      unfold stF at hy
      split at hy
      · assumption
      · omega
    rcases List.mem_cons.1 hx with rfl | hx
    · exact ky
    · exact all_known l (stF s y) (by omega) x hx
theorem pw_known {l l' : List fO} (h : pw honT l l') : (∀ x ∈ l', x.Known = true) → l' = l := by
  refine pw_ind (M := fun l l' => (∀ x ∈ l', x.Known = true) → l' = l) ?_ ?_ h
  · intro _; rfl
  · intro x x' m m' h1 _ ih hk
    rw [ih fun y hy => hk y (List.mem_cons_of_mem _ hy)]
    rcases h1 with h1 | rfl
    · rw [hk x' List.mem_cons_self] at h1; cases h1
    · rfl
theorem stT_hon {n fr : Int} {l l' : List fO} (h : pw honT l l') (hb : ∀ x ∈ l, big x) (hb' : ∀ x ∈ l', big x) (hn : 0 ≤ n) (hl : (l'.length : Int) ≤ fr) : hon (stT n fr l) (stT n fr l') := by
  have r : stR (stA l) (stA l') := stA_R h hb hb' _ _ ⟨by simp, by simp, by simp, by simp, by simp⟩
  have c : (stA l').1 ≤ (l'.length : Int) := by have := (stA_cnt l' (0, 0, 0)).2; simpa [stA] using this
  unfold stT
  obtain ⟨h1, h2, h3, h4, h5⟩ := r
  have w1 : IntKind.i64.wrap ((stA l).2.2 - (stA l).2.1) = (stA l).2.2 - (stA l).2.1 := Go.OB.wrap_i64 (by omega) (by omega)
  have w2 : IntKind.i64.wrap ((stA l').2.2 - (stA l').2.1) = (stA l').2.2 - (stA l').2.1 := Go.OB.wrap_i64 (by omega) (by omega)
  have kn : (stA l').1 = fr → l' = l := fun f => pw_known h fun x hx => all_known l' (0, 0, 0) (show (stA l').1 = 0 + (l'.length : Int) by omega) x hx
  rw [w1, w2]
  by_cases z : (stA l').1 = 0
  · have q := h2 z
    have q1 : (stA l').2.2 = 0 := by rw [q]
    have q2 : (stA l').2.1 = 0 := by rw [q]
    by_cases f : (stA l').1 = fr
    · rw [kn f]; exact Or.inr rfl
    · rw [if_neg (show ¬ n < (stA l').2.2 - (stA l').2.1 by omega), if_neg f]; left; rfl
  · have q := h3 (by omega)
    by_cases g : n < (stA l').2.2 - (stA l').2.1
    · rw [if_pos g, if_pos (show n < (stA l).2.2 - (stA l).2.1 by omega)]; right; rfl
    · by_cases f : (stA l').1 = fr
      · rw [kn f]; exact Or.inr rfl
      · rw [if_neg g, if_neg f]; left; rfl
theorem cnt_hon {t : Int} (ht : t ≠ 0) {l l' : List Int} (h : pw hon l l') : cnt t l' ≤ cnt t l := by
  refine pw_ind (M := fun l l' => cnt t l' ≤ cnt t l) ?_ ?_ h
  · exact Int.le_refl _
  · intro x x' m m' h1 _ ih
    rw [cnt_cons, cnt_cons]
    rcases h1 with rfl | rfl
    · rw [if_neg (by omega)]
      split <;> omega
    · omega
theorem cntT_hon {n fr : Int} {l l' : List Int} (h : pw hon l l') (hl : (l.length : Int) ≤ fr) : hon (cntT n fr l) (cntT n fr l') := by
  have c1 := cnt_hon (t := 1) (by decide) h
  have c2 := cnt_hon (t := 2) (by decide) h
  have b := cnt_both l
  unfold cntT
  by_cases g : n ≤ cnt 2 l'
  · rw [if_pos g, if_pos (by omega)]; right; rfl
  · rw [if_neg g]
    by_cases f : fr - n < cnt 1 l'
    · rw [if_pos f, if_neg (by omega), if_pos (by omega)]; right; rfl
    · rw [if_neg f]; left; rfl
theorem grp1_hon {s w:Int}(hs:s=1∧w=2∨s=2∧w=1){o o' t t':Int}(ho:0≤o∧o≤2)(ht:0≤t∧t≤2)(h1:hon o o')(h2:hon t t'):hon (grp1 s w o t) (grp1 s w o' t'):=by
  rcases hs with ⟨rfl,rfl⟩ | ⟨rfl,rfl⟩<;>rcases tri ht with rfl | rfl | rfl<;>rcases tri ho with rfl | rfl | rfl<;>rcases h1 with rfl | rfl<;>rcases h2 with rfl | rfl<;>simp [grp1,hon]
theorem grp1_rng {s w : Int} (hs : s = 1 ∧ w = 2 ∨ s = 2 ∧ w = 1) {o t : Int} (ho : 0 ≤ o ∧ o ≤ 2) : 0 ≤ grp1 s w o t ∧ grp1 s w o t ≤ 2 := by
  unfold grp1
  split
  · rcases hs with ⟨rfl, _⟩ | ⟨rfl, _⟩ <;> omega
  · split
    · split
      · omega
      · exact ho
    · exact ho
theorem fold_hon {s w : Int} (hs : s = 1 ∧ w = 2 ∨ s = 2 ∧ w = 1) {l l' : List Int} (h : pw hon l l') : (∀ t ∈ l, 0 ≤ t ∧ t ≤ 2) → ∀ o o', 0 ≤ o ∧ o ≤ 2 → hon o o' → hon (l.foldl (grp1 s w) o) (l'.foldl (grp1 s w) o') := by
  refine pw_ind (M := fun l l' => (∀ t ∈ l, 0 ≤ t ∧ t ≤ 2) → ∀ o o', 0 ≤ o ∧ o ≤ 2 → hon o o' → hon (l.foldl (grp1 s w) o) (l'.foldl (grp1 s w) o')) ?_ ?_ h
  · intro _ o o' _ ho; exact ho
  · intro x x' m m' h1 _ ih hr o o' ho hh
    rw [List.foldl_cons, List.foldl_cons]
    exact ih (fun y hy => hr y (List.mem_cons_of_mem _ hy)) _ _ (grp1_rng hs ho) (grp1_hon hs ho (hr x List.mem_cons_self) hh h1)
theorem sinceT_hon {a a' b b' l l':Int}(ha:0≤a∧a≤2)(hb:0≤b∧b≤2)(hl:0≤l∧l≤2)(h1:hon a a')(h2:hon b b')(h3:hon l l'):hon (sinceT a b l) (sinceT a' b' l'):=by
  rcases tri ha with rfl | rfl | rfl<;>rcases tri hb with rfl | rfl | rfl<;>rcases tri hl with rfl | rfl | rfl<;>rcases h1 with rfl | rfl<;>rcases h2 with rfl | rfl<;>rcases h3 with rfl | rfl<;>simp [sinceT,hon]
theorem risesT_hon {t t' l l':Int}(ht:0≤t∧t≤2)(hl:0≤l∧l≤2)(h1:hon t t')(h2:hon l l'):hon (risesT t l) (risesT t' l'):=by
  rcases tri ht with rfl | rfl | rfl<;>rcases tri hl with rfl | rfl | rfl<;>rcases h1 with rfl | rfl<;>rcases h2 with rfl | rfl<;>simp [risesT,hon]
theorem cntL_drop' (fr:Int)(l:List Int):cntL fr l=l.drop (if (l.length:Int)=fr then 1 else 0):=by
  unfold cntL
  split
  · rw [List.drop_one]
  · rw [List.drop_zero]
theorem opp_hon {t t':Int}(h:hon t t'):hon (opp t) (opp t'):=by
  rcases h with rfl | rfl
  · left; rfl
  · right; rfl
end Go.Lf
namespace Go.Lf
def sbs (l l':List Bool):Prop:=l.length=l'.length∧ ∀i:Nat,l[i]? =some true→l'[i]? =some true
theorem sbs_refl (l:List Bool):sbs l l:=⟨rfl,fun _ h=>h⟩
theorem sbs_trans {a b c:List Bool}(h:sbs a b)(g:sbs b c):sbs a c:=⟨h.1.trans g.1,fun i x=>g.2 i (h.2 i x)⟩
def cntB (l:List Bool):Int:=(l.filter id).length
theorem cntB_cons (b:Bool)(l:List Bool):cntB (b :: l)=(if b=true then 1 else 0)+cntB l:=by
  unfold cntB
  cases b
  · simp
  · simp; omega
theorem cntB_snoc (b:Bool)(l:List Bool):cntB (l++ [b])=cntB l+if b=true then 1 else 0:=by
  unfold cntB
  rw [List.filter_append,List.length_append]
  cases b<;>simp
theorem cntB_le (l:List Bool):0≤cntB l∧cntB l≤l.length:=by
  unfold cntB
  have:=List.length_filter_le id l
  omega
theorem sbs_cons {a b : Bool} {l l' : List Bool} : sbs (a :: l) (b :: l') ↔ (a = true → b = true) ∧ sbs l l' := by
  constructor
  · rintro ⟨h1, h2⟩
    exact ⟨fun h => by simpa using h2 0 (by simp [h]), by simpa using h1, fun i h => by simpa using h2 (i + 1) (by simpa using h)⟩
  · rintro ⟨h1, h2, h3⟩
    refine ⟨by simp [h2], fun i h => ?_⟩
    cases i with
    | zero => have : a = true := by simpa using h
              simp [h1 this]
    | succ i => simpa using h3 i (by simpa using h)
theorem cntB_sbs: ∀{l l':List Bool},sbs l l'→cntB l≤cntB l'
  | [],[],_=>Int.le_refl _
  | [],_ :: _,h=>by have:=h.1; simp at this
  | _ :: _,[],h=>by have:=h.1; simp at this
  | a :: l,b :: l',h=>by
    obtain ⟨h1,h2⟩:=sbs_cons.1 h
    have:=cntB_sbs h2
    rw [cntB_cons,cntB_cons]
    cases a
    · simp; split<;>omega
    · rw [h1 rfl]; omega
theorem cntB_pos {l:List Bool}{i:Nat}(h:l[i]? =some true):1≤cntB l:=by
  unfold cntB
  have:true ∈ l.filter id:=List.mem_filter.2 ⟨List.mem_of_getElem? h,rfl⟩
  have:=List.length_pos_of_mem this
  omega
theorem cntB_two {l:List Bool}: ∀{i j:Nat},i<j→l[i]? =some true→l[j]? =some true→2≤cntB l:=by
  induction l with
  | nil=>intro i j _ h; simp at h
  | cons a l ih=>
    intro i j hij h1 h2
    rw [cntB_cons]
    cases j with
    | zero=>omega
    | succ j=>
      have h2':l[j]? =some true:=by simpa using h2
      cases i with
      | zero=>
        obtain rfl:a=true:=by simpa using h1
        have:=cntB_pos h2'
        simp; omega
      | succ i=>
        have:=ih (i:=i) (j:=j) (by omega) (by simpa using h1) h2'
        split<;>omega
theorem phase_cnt (l : List Bool) (t : List fO) (rs : List Int) (hl : l.length ≤ 2000000) : Fco (gG.mk t l rs) (l.length : Int) (0, 0) = some (cntB l) := by
  have q := loopO_inv (β := Int) (fun i (s : Int) => (s, (i : Int))) l (fun i s => s = cntB (l.take i)) (fun r => r = cntB l) (by omega)
    (body := fun k156 ⟨g151, g152⟩ => gJ (decide (g152 < (l.length : Int))) fun x160 =>
      gK x160
      (gB (gB (at' l g152) fun x186 =>
      gK x186
      (gJ (IntKind.i64.wrap (g151 + 1)) fun x200 =>
      some x200)
      (some g151)) fun g182 =>
      gJ (IntKind.i64.wrap (g152 + 1)) fun x202 =>
      k156 (g182, x202))
      (some g151)) (fun k i s x hx hi hs => ?_) (fun k s hs => ?_) 0 rfl
  · obtain ⟨r, h, rfl⟩ := q
    exact h
  · have e : cntB (l.take (i + 1)) = cntB (l.take i) + if x = true then 1 else 0 := by rw [List.take_add_one, hx]; exact cntB_snoc _ _
    have b := cntB_le (l.take i)
    have b2 : ((l.take i).length : Int) ≤ l.length := by rw [List.length_take]; omega
    simp only [zU, xQ]
    rw [if_pos (by omega), wF hx, eH hi (by omega)]
    cases x
    · exact ⟨s, by rw [e, hs]; simp, rfl⟩
    · refine ⟨s + 1, by rw [e, hs]; simp, ?_⟩
      have w : IntKind.i64.wrap (s + 1) = s + 1 := Go.OB.wrap_i64 (by omega) (by omega)
      simp only [gB, gK, w]
  · rw [List.take_length] at hs
    simp only [zU, xQ]
    rw [if_neg (by omega)]
    exact ⟨_, rfl, hs⟩
theorem phaseT_eq {m : gG} {p : Int} (h : 0 ≤ p ∧ p < m.possible.length) (hl : m.possible.length ≤ 2000000) : phaseT m p = if m.possible[p.toNat]? = some true then (if cntB m.possible = 1 then 2 else 0) else 1 := by
  obtain ⟨tl, ps, rs⟩ := m
  simp only at h hl ⊢
  have hx : ps[p.toNat]? = some (ps[p.toNat]'(by omega)) := List.getElem?_eq_getElem (by omega)
  generalize ps[p.toNat]'(by omega) = x at hx
  have ha : at' ps p = some x := by unfold at'; rw [if_pos h.1]; exact hx
  unfold phaseT Fav
  simp only [zU, gB]
  rw [phase_cnt ps tl rs hl]
  dsimp only
  rw [ha, hx]
  dsimp only
  cases x
  · rfl
  · simp only [xQ, Bool.not_true, gK]
    rw [if_pos trivial]
    by_cases c : cntB ps = 1
    · rw [if_pos c, decide_eq_true c]; rfl
    · rw [if_neg c, decide_eq_false c]; rfl
inductive Hn:Nd→Nd→Prop
  | constant (t:Int):Hn (.constant t) (.constant t)
  | number (tr op n:Int):Hn (.number tr op n) (.number tr op n)
  | pair (a b da db op:Int):Hn (.pair a b da db op) (.pair a b da db op)
  | steady (tr n fr:Int) (l l':List fO):0≤n→pw honT l l'→(∀x ∈ l,big x)→(∀x ∈ l',big x)→Hn (.steady tr n fr l) (.steady tr n fr l')
  | phase (p:Int):Hn (.phase p) (.phase p)
  | rule (r:Int):Hn (.rule r) (.rule r)
  | not (k k':Nd):Hn k k'→Hn (.not k) (.not k')
  | group (ks ks':List Nd) (any:Bool):ks.length=ks'.length→(∀(i:Nat) k k',ks[i]? =some k→ks'[i]? =some k'→Hn k k')→Hn (.group ks any) (.group ks' any)
  | count (k k':Nd) (n fr:Int) (l l':List Int) (t t':Arr 3 Int):Hn k k'→pw hon l l'→Hn (.count k n fr l t) (.count k' n fr l' t')
  | since (a b a' b':Nd) (l l':Int) (g g':Bool):Hn a a'→Hn b b'→hon l l'→Hn (.since a b l g) (.since a' b' l' g')
  | rises (k k':Nd) (l l':Int) (g g':Bool):Hn k k'→hon l l'→Hn (.rises k l g) (.rises k' l' g')
structure HM (m m':gG):Prop where
  t:pw honT m.told m'.told
  b: ∀x ∈ m.told,big x
  b': ∀x ∈ m'.told,big x
  p:sbs m.possible m'.possible
  n:m.possible≠ []→ ∃i:Nat,m.possible[i]? =some true
  l:m.possible.length≤2000000
  r:pw hon m.rules m'.rules
theorem pw_at {α : Type} {R : α → α → Prop} {l l' : List α} (h : pw R l l') (i : Int) : (∃ x x', at' l i = some x ∧ at' l' i = some x' ∧ R x x') ∨ at' l i = none ∧ at' l' i = none := by
  unfold at'
  by_cases c : 0 ≤ i
  · rw [if_pos c, if_pos c]
    cases hx : l[i.toNat]? with
    | none =>
      right
      refine ⟨rfl, ?_⟩
      rw [List.getElem?_eq_none_iff] at hx ⊢
      have := h.1; omega
    | some x =>
      left
      have hlt : i.toNat < l'.length := by rw [← h.1]; exact (List.getElem?_eq_some_iff.1 hx).1
      refine ⟨x, l'[i.toNat], rfl, List.getElem?_eq_getElem hlt, h.2 _ _ _ hx (List.getElem?_eq_getElem hlt)⟩
  · rw [if_neg c, if_neg c]; right; exact ⟨rfl, rfl⟩
theorem aT (t:Int):hon t t:=Or.inr rfl
theorem numT_hon {m m' : gG} (h : pw honT m.told m'.told) (tr op n : Int) : hon (numT m tr op n) (numT m' tr op n) := by
  rw [numT_eq, numT_eq]
  rcases pw_at h tr with ⟨x, x', e1, e2, hr⟩ | ⟨e1, e2⟩
  · rw [e1, e2]
    rcases hr with hr | rfl
    · dsimp only
      left; exact if_neg (by rw [hr]; simp)
    · exact aT _
  · rw [e1, e2]; exact aT _
theorem pairT_hon {m m' : gG} (h : pw honT m.told m'.told) (a b da db op : Int) : hon (pairT m a b da db op) (pairT m' a b da db op) := by
  rw [pairT_eq, pairT_eq]
  rcases pw_at h a with ⟨x, x', e1, e2, hr⟩ | ⟨e1, e2⟩
  · rw [e1, e2]
    rcases pw_at h b with ⟨y, y', f1, f2, hs⟩ | ⟨f1, f2⟩
    · rw [f1, f2]
      dsimp only
      rcases hr with hr | rfl
      · left; exact if_neg (by rw [hr]; simp)
      · rcases hs with hs | rfl
        · left; exact if_neg (by rw [hs]; simp)
        · exact aT _
    · rw [f1, f2]; exact aT _
  · rw [e1, e2]; exact aT _
theorem phaseT_hon {m m' : gG} (h : HM m m') {p : Int} (hp : 0 ≤ p ∧ p < m.possible.length) : hon (phaseT m p) (phaseT m' p) := by
  have hl := h.p.1
  rw [phaseT_eq hp h.l, phaseT_eq (by rw [← hl]; exact hp) (by rw [← hl]; exact h.l)]
  by_cases c' : m'.possible[p.toNat]? = some true
  · rw [if_pos c']
    by_cases d' : cntB m'.possible = 1
    · rw [if_pos d']
      right
      obtain ⟨i, hi⟩ := h.n (by intro e; rw [e] at hp; simp at hp; omega)
      have hi' := h.p.2 i hi
      have e : i = p.toNat := by
        by_cases q : i < p.toNat
        · have := cntB_two q hi' c'; omega
        · by_cases q2 : p.toNat < i
          · have := cntB_two q2 c' hi'; omega
          · omega
      subst e
      have s := cntB_sbs h.p
      have s2 := cntB_pos hi
      rw [if_pos hi, if_pos (by omega)]
    · rw [if_neg d']; left; rfl
  · rw [if_neg c', if_neg (fun e => c' (h.p.2 _ e))]; right; rfl
theorem hn_stp {T P R : Nat} {m m' : gG} (hm : HM m m') (hT : T = m.told.length) (hP : P = m.possible.length) (hg : ∀ k, wfN T P R k → dpN k ≤ 1000000 → 0 ≤ (stp m k).1 ∧ (stp m k).1 ≤ 2) {k k' : Nd} (h : Hn k k') :
    wfN T P R k → wfN T P R k' → dpN k ≤ 1000000 → Hn (stp m k).2 (stp m' k').2 ∧ hon (stp m k).1 (stp m' k').1 := by
  induction h with
  | constant t => intro _ _ _; rw [stp, stp]; exact ⟨.constant t, aT _⟩
  | number tr op n => intro _ _ _; rw [stp, stp]; exact ⟨.number tr op n, numT_hon hm.t _ _ _⟩
  | pair a b da db op => intro _ _ _; rw [stp, stp]; exact ⟨.pair a b da db op, pairT_hon hm.t _ _ _ _ _⟩
  | steady tr n fr l l' hn ha hb hb' =>
    intro h1 h2 _
    obtain ⟨w1, w2, w3⟩ := h1
    obtain ⟨v1, _, v3⟩ := h2
    subst hT
    obtain ⟨x, e1, e2⟩ := steadyT_eq (m := m) (n := n) w1 w2 w3
    obtain ⟨x', f1, f2⟩ := steadyT_eq (m := m') (n := n) (by rw [← hm.t.1]; exact w1) w2 v3
    have hx : honT x x' := by
      rcases pw_at hm.t tr with ⟨y, y', g1, g2, g3⟩ | ⟨g1, _⟩
      · rw [e1] at g1; rw [f1] at g2
        obtain rfl := Option.some.inj g1
        obtain rfl := Option.some.inj g2
        exact g3
      · rw [e1] at g1; cases g1
    have mx : x ∈ m.told := by unfold at' at e1; rw [if_pos w1.1] at e1; exact List.mem_of_getElem? e1
    have mx' : x' ∈ m'.told := by unfold at' at f1; rw [if_pos w1.1] at f1; exact List.mem_of_getElem? f1
    have b1 : ∀ y ∈ l ++ [x], big y := by
      intro y hy
      rcases List.mem_append.1 hy with q | q
      · exact hb y q
      · obtain rfl := List.mem_singleton.1 q; exact hm.b _ mx
    have b2 : ∀ y ∈ l' ++ [x'], big y := by
      intro y hy
      rcases List.mem_append.1 hy with q | q
      · exact hb' y q
      · obtain rfl := List.mem_singleton.1 q; exact hm.b' _ mx'
    rw [stp, stp, e2, f2]
    refine ⟨.steady _ _ _ _ _ hn ?_ (fun y hy => b1 y (List.mem_of_mem_drop hy)) (fun y hy => b2 y (List.mem_of_mem_drop hy)), ?_⟩
    · rw [← ha.1]; exact pw_drop _ (pw_snoc ha hx)
    · exact stT_hon (pw_snoc ha hx) b1 b2 hn (by rw [List.length_append, List.length_singleton]; omega)
  | phase p => intro h1 _ _; rw [stp, stp]; subst hP; exact ⟨.phase p, phaseT_hon hm h1⟩
  | rule r =>
    intro _ _ _
    rw [stp, stp]
    refine ⟨.rule r, ?_⟩
    show hon (ruleT m r) (ruleT m' r)
    unfold ruleT
    rcases pw_at hm.r r with ⟨y, y', g1, g2, g3⟩ | ⟨g1, g2⟩
    · rw [g1, g2]; exact g3
    · rw [g1, g2]; exact aT _
  | not k k' _ ih =>
    intro h1 h2 hd
    rw [dpN] at hd
    obtain ⟨q1, q2⟩ := ih h1 h2 (by omega)
    rw [stp, stp]
    exact ⟨.not _ _ q1, opp_hon q2⟩
  | group ks ks' any hl hs ih =>
    intro h1 h2 hd
    rw [dpN] at hd
    obtain ⟨w1, w2⟩ := h1
    obtain ⟨v1, v2⟩ := h2
    rw [stp, stp, stps_map, stps_map]
    refine ⟨.group _ _ _ (by simpa using hl) fun i x x' hx hx' => ?_, ?_⟩
    · simp only [List.map_map, List.getElem?_map, Option.map_eq_some_iff, Function.comp] at hx hx'
      obtain ⟨k, hk, rfl⟩ := hx
      obtain ⟨k', hk', rfl⟩ := hx'
      have hmem := List.mem_of_getElem? hk
      exact (ih i k k' hk hk' (wfL_mem.1 w1 k hmem) (wfL_mem.1 v1 k' (List.mem_of_getElem? hk')) (by have := dpL_mem hmem; omega)).1
    · have e : pw hon ((ks.map (stp m)).map Prod.fst) ((ks'.map (stp m')).map Prod.fst) := by
        refine ⟨by simpa using hl, fun i x x' hx hx' => ?_⟩
        simp only [List.map_map, List.getElem?_map, Option.map_eq_some_iff, Function.comp] at hx hx'
        obtain ⟨k, hk, rfl⟩ := hx
        obtain ⟨k', hk', rfl⟩ := hx'
        have hmem := List.mem_of_getElem? hk
        exact (ih i k k' hk hk' (wfL_mem.1 w1 k hmem) (wfL_mem.1 v1 k' (List.mem_of_getElem? hk')) (by have := dpL_mem hmem; omega)).2
      refine fold_hon (by cases any <;> simp) e ?_ _ _ (by cases any <;> simp) (aT _)
      intro t ht
      rw [List.map_map, List.mem_map] at ht
      obtain ⟨k, hk, rfl⟩ := ht
      exact hg k (wfL_mem.1 w1 k hk) (by have := dpL_mem hk; omega)
  | count k k' n fr l l' t t' _ ha ih =>
    intro h1 h2 hd
    rw [dpN] at hd
    obtain ⟨w1, w2, w3, w4, w5, rfl⟩ := h1
    obtain ⟨v1, v2, v3, v4, v5, rfl⟩ := h2
    obtain ⟨q1, q2⟩ := ih w1 v1 (by omega)
    rw [stp, stp]
    have e := pw_snoc ha q2
    refine ⟨.count _ _ _ _ _ _ _ _ q1 ?_, cntT_hon e (by rw [List.length_append, List.length_singleton]; omega)⟩
    rw [cntL_drop', cntL_drop', ← e.1]
    exact pw_drop _ e
  | since a b a' b' l l' g g' _ _ hl ih1 ih2 =>
    intro h1 h2 hd
    rw [dpN] at hd
    obtain ⟨q1, q2⟩ := ih1 h1.1 h2.1 (by omega)
    obtain ⟨r1, r2⟩ := ih2 h1.2.1 h2.2.1 (by omega)
    have e := sinceT_hon (hg a h1.1 (by omega)) (hg b h1.2.1 (by omega)) h1.2.2 q2 r2 hl
    rw [stp, stp]
    exact ⟨.since _ _ _ _ _ _ _ _ q1 r1 e, e⟩
  | rises k k' l l' g g' _ hl ih =>
    intro h1 h2 hd
    rw [dpN] at hd
    obtain ⟨q1, q2⟩ := ih h1.1 h2.1 (by omega)
    rw [stp, stp]
    exact ⟨.rises _ _ _ _ _ _ q1 q2, risesT_hon (hg k h1.1 (by omega)) h1.2 q2 hl⟩
end Go.Lf
namespace Go.Lf
def zR (z z':fB×Int):Prop:=z.1.from_=z'.1.from_∧z.1.to=z'.1.to∧hon z.2 z'.2
theorem sbs_set {l l' : List Bool} (i : Nat) (h : sbs l l') : sbs (l.set i true) (l'.set i true) := by
  refine ⟨by simp [h.1], fun j hj => ?_⟩
  rw [List.getElem?_set] at hj ⊢
  split
  · rename_i e
    subst e
    rw [if_pos rfl] at hj
    split at hj
    · rename_i c
      rw [if_pos (by rw [← h.1]; exact c)]
    · cases hj
  · rename_i e
    rw [if_neg e] at hj
    exact h.2 j hj
theorem sbs_up (l:List Bool)(i:Nat):sbs l (l.set i true):=by
  refine ⟨by simp,fun j hj=>?_⟩
  rw [List.getElem?_set]
  split
  · rw [if_pos (by rename_i e; subst e; exact (List.getElem?_eq_some_iff.1 hj).1)]
  · exact hj
theorem mvIn_up (p : Int) : ∀ (l : List (fB × Int)) (nx : List Bool), sbs nx (aA p l nx).2
  | [], nx => sbs_refl nx
  | (mv, t) :: r, nx => by
    rw [aA]
    split
    · exact mvIn_up p r nx
    · split
      · exact sbs_up nx _
      · exact sbs_trans (sbs_up nx _) (mvIn_up p r _)
theorem mvIn_hon (p : Int) {zs zs' : List (fB × Int)} (h : pw zR zs zs') : (∀ z ∈ zs, 0 ≤ z.2 ∧ z.2 ≤ 2) → ∀ nx nx', sbs nx nx' → ((aA p zs nx).1 = true → (aA p zs' nx').1 = true) ∧ sbs (aA p zs nx).2 (aA p zs' nx').2 := by
  refine pw_ind (M := fun zs zs' => (∀ z ∈ zs, 0 ≤ z.2 ∧ z.2 ≤ 2) → ∀ nx nx', sbs nx nx' → ((aA p zs nx).1 = true → (aA p zs' nx').1 = true) ∧ sbs (aA p zs nx).2 (aA p zs' nx').2) ?_ ?_ h
  · intro _ nx nx' hs; exact ⟨fun h => h, hs⟩
  · rintro ⟨mv, t⟩ ⟨mv', t'⟩ l l' ⟨h1, h2, h3⟩ _ ih hr nx nx' hs
    have ht := hr _ List.mem_cons_self
    have hr' : ∀ z ∈ l, 0 ≤ z.2 ∧ z.2 ≤ 2 := fun z hz => hr z (List.mem_cons_of_mem _ hz)
    simp only at h1 h2 h3 ht
    rw [aA, aA, ← h1, ← h2]
    by_cases c : mv.from_ ≠ p
    · rw [if_pos (Or.inl c), if_pos (Or.inl c)]; exact ih hr' nx nx' hs
    · have nc : ∀ u : Int, u ≠ 1 → ¬ (mv.from_ ≠ p ∨ u = 1) := fun u hu q => q.elim c hu
      rcases h3 with rfl | rfl
      · rw [if_neg (nc 0 (by decide)), if_neg (show ¬ (0 : Int) = 2 by decide)]
        rcases tri ht with rfl | rfl | rfl
        · rw [if_neg (nc 0 (by decide)), if_neg (show ¬ (0 : Int) = 2 by decide)]
          exact ih hr' _ _ (sbs_set _ hs)
        · rw [if_pos (Or.inr rfl)]
          exact ih hr' _ _ (sbs_trans hs (sbs_up nx' _))
        · rw [if_neg (nc 2 (by decide)), if_pos rfl]
          exact ⟨fun h => (by cases h), sbs_trans (sbs_set _ hs) (mvIn_up p l' _)⟩
      · by_cases e : t' = 1
        · rw [if_pos (Or.inr e), if_pos (Or.inr e)]; exact ih hr' nx nx' hs
        · rw [if_neg (nc _ e), if_neg (nc _ e)]
          split
          · exact ⟨fun h => h, sbs_set _ hs⟩
          · exact ih hr' _ _ (sbs_set _ hs)
theorem mvOne_up (zs : List (fB × Int)) (i : Nat) (is : Bool) (nx : List Bool) : sbs nx (mvOne zs i is nx) := by
  unfold mvOne
  split
  · refine sbs_trans (mvIn_up (i : Int) zs nx) ⟨by simp, fun j hj => ?_⟩
    rw [List.getElem?_set]
    split
    · rename_i e
      subst e
      rw [if_pos (List.getElem?_eq_some_iff.1 hj).1, List.getD_eq_getElem?_getD, hj]; rfl
    · exact hj
  · exact sbs_refl nx
theorem mvOne_hon {zs zs' : List (fB × Int)} (h : pw zR zs zs') (hr : ∀ z ∈ zs, 0 ≤ z.2 ∧ z.2 ≤ 2) (i : Nat) {a b : Bool} (hab : a = true → b = true) {nx nx' : List Bool} (hs : sbs nx nx') : sbs (mvOne zs i a nx) (mvOne zs' i b nx') := by
  cases a with
  | false =>
    rw [show mvOne zs i false nx = nx by unfold mvOne; simp]
    exact sbs_trans hs (mvOne_up zs' i b nx')
  | true =>
    obtain rfl : b = true := hab rfl
    obtain ⟨q1, q2⟩ := mvIn_hon (i : Int) h hr nx nx' hs
    unfold mvOne
    rw [if_pos rfl, if_pos rfl]
    refine ⟨by simp [q2.1], fun j hj => ?_⟩
    rw [List.getElem?_set] at hj ⊢
    split
    · rename_i e
      subst e
      rw [if_pos rfl] at hj
      split at hj
      · rename_i c
        rw [if_pos (by rw [← q2.1]; exact c)]
        have hj := Option.some.inj hj
        congr 1
        rw [Bool.or_eq_true] at hj ⊢
        rcases hj with hj | hj
        · left
          rw [List.getD_eq_getElem?_getD] at hj ⊢
          have : (aA (i : Int) zs nx).2[i]? = some true := by
            rw [List.getElem?_eq_getElem c] at hj ⊢
            exact congrArg some hj
          rw [q2.2 i this]; rfl
        · right; exact q1 hj
      · cases hj
    · rename_i e
      rw [if_neg e] at hj
      exact q2.2 j hj
theorem poss_up (zs:List (fB×Int)): ∀(l:List Bool) (i:Nat) (nx:List Bool),sbs nx (poss zs l i nx)
  | [],_,nx=>sbs_refl nx
  | is :: r,i,nx=>by rw [poss]; exact sbs_trans (mvOne_up zs i is nx) (poss_up zs r (i+1) _)
theorem poss_hon {zs zs':List (fB×Int)}(h:pw zR zs zs')(hr: ∀z ∈ zs,0≤z.2∧z.2≤2): ∀(l l':List Bool) (i:Nat) (nx nx':List Bool),sbs l l'→sbs nx nx'→sbs (poss zs l i nx) (poss zs' l' i nx')
  | [],[],_,_,_,_,hs=>hs
  | [],_ :: _,_,_,_,h,_=>by have:=h.1; simp at this
  | _ :: _,[],_,_,_,h,_=>by have:=h.1; simp at this
  | a :: l,b :: l',i,nx,nx',hl,hs=>by
    obtain ⟨h1,h2⟩:=sbs_cons.1 hl
    rw [poss,poss]
    exact poss_hon h hr l l' (i+1) _ _ h2 (mvOne_hon h hr i h1 hs)
def some1 (l:List Bool):Prop:= ∃i:Nat,l[i]? =some true
theorem some1_sbs {l l':List Bool}(h:some1 l)(hs:sbs l l'):some1 l':=by obtain ⟨i,hi⟩:=h; exact ⟨i,hs.2 i hi⟩
theorem mvIn_some (p : Int) : ∀ (l : List (fB × Int)) (nx : List Bool), (∀ z ∈ l, 0 ≤ z.1.to ∧ z.1.to < nx.length) → (aA p l nx).1 = true ∨ some1 (aA p l nx).2
  | [], nx, _ => Or.inl rfl
  | (mv, t) :: r, nx, h => by
    have h0 := h _ List.mem_cons_self
    have hr : ∀ z ∈ r, 0 ≤ z.1.to ∧ z.1.to < nx.length := fun z hz => h z (List.mem_cons_of_mem _ hz)
    have s1 : some1 (nx.set mv.to.toNat true) := ⟨mv.to.toNat, by
      simp only at h0
      rw [List.getElem?_set, if_pos rfl, if_pos (by omega)]⟩
    rw [aA]
    split
    · exact mvIn_some p r nx hr
    · split
      · right; exact s1
      · right; exact some1_sbs s1 (mvIn_up p r _)
theorem poss_some (zs : List (fB × Int)) : ∀ (l : List Bool) (i : Nat) (nx : List Bool), (∀ z ∈ zs, 0 ≤ z.1.to ∧ z.1.to < nx.length) → i + l.length ≤ nx.length → some1 l → some1 (poss zs l i nx)
  | [], _, _, _, _, h => by obtain ⟨i, hi⟩ := h; simp at hi
  | a :: l, i, nx, hz, hl, h => by
    rw [List.length_cons] at hl
    rw [poss]
    cases a with
    | true =>
      refine some1_sbs ?_ (poss_up zs l (i + 1) _)
      unfold mvOne
      rw [if_pos rfl]
      have hlen : (aA (i : Int) zs nx).2.length = nx.length := mvIn_len _ _ _
      rcases mvIn_some (i : Int) zs nx hz with q | q
      · refine ⟨i, ?_⟩
        rw [q, List.getElem?_set, if_pos rfl, if_pos (by omega), Bool.or_true]
      · refine some1_sbs q ⟨by simp, fun j hj => ?_⟩
        rw [List.getElem?_set]
        split
        · rename_i e
          subst e
          rw [if_pos (List.getElem?_eq_some_iff.1 hj).1, List.getD_eq_getElem?_getD, hj]; rfl
        · exact hj
    | false =>
      rw [show mvOne zs i false nx = nx by unfold mvOne; simp]
      refine poss_some zs l (i + 1) nx hz (by omega) ?_
      obtain ⟨j, hj⟩ := h
      cases j with
      | zero => simp at hj
      | succ j => exact ⟨j, by simpa using hj⟩
end Go.Lf
namespace Go.Lf
structure HnW (w w':gY):Prop where
  ph:w.phases=w'.phases
  ml:w.moves.length=w'.moves.length
  mv: ∀(i:Nat) x x',w.moves[i]? =some x→w'.moves[i]? =some x'→x.from_=x'.from_∧x.to=x'.to∧Hn x.when x'.when
  rl:w.rules.length=w'.rules.length
  ru: ∀(i:Nat) k k',w.rules[i]? =some k→w'.rules[i]? =some k'→Hn k k'
  po:sbs w.possible w'.possible
  so:w.possible≠ []→some1 w.possible
theorem hnW_nxt {T P : Nat} {w w' : gY} (hw : WfW w T P) (hw' : WfW w' T P) (hs : HnW w w') {told told' : List fO} (ht : told.length = T) (h : pw honT told told') (hb : ∀ x ∈ told, big x) (hb' : ∀ x ∈ told', big x) :
    HnW (nxt told w).2 (nxt told' w').2 ∧ pw hon (nxt told w).1 (nxt told' w').1 := by
  have ht' : told'.length = T := by rw [← h.1]; exact ht
  obtain ⟨n1, n2, n3, n4⟩ := next_ok hw ht
  have mok := (moved_ok hw ht).2
  have hm0 : HM (mv0 told) (mv0 told') := ⟨h, hb, hb', sbs_refl [], fun q => absurd rfl q, by simp [mv0], pw_nil⟩
  have hg0 : ∀ k, wfN T 0 0 k → dpN k ≤ 1000000 → 0 ≤ (stp (mv0 told) k).1 ∧ (stp (mv0 told) k).1 ≤ 2 := fun k hk hd => by
    subst ht
    exact (node_ok (m := mv0 told) (R := 0) (by simp [mv0]) (Nat.zero_le _) (by simp [mv0]) hd hk).2.1
  have mvh : ∀ (i : Nat) x x', w.moves[i]? = some x → w'.moves[i]? = some x' → Hn (stp (mv0 told) x.when).2 (stp (mv0 told') x'.when).2 ∧ hon (stp (mv0 told) x.when).1 (stp (mv0 told') x'.when).1 := fun i x x' hx hx' => by
    obtain ⟨q1, q2, q3⟩ := hs.mv i x x' hx hx'
    have a := hw.mv x (List.mem_of_getElem? hx)
    have b := hw'.mv x' (List.mem_of_getElem? hx')
    exact hn_stp hm0 ht.symm rfl hg0 q3 a.2.1 b.2.1 a.2.2
  have zs : pw zR ((w.moves.map (mvS (mv0 told))).zip (w.moves.map fun x => (stp (mv0 told) x.when).1)) ((w'.moves.map (mvS (mv0 told'))).zip (w'.moves.map fun x => (stp (mv0 told') x.when).1)) := by
    refine ⟨by simp [hs.ml], fun i z z' hz hz' => ?_⟩
    obtain ⟨a, b⟩ := z
    obtain ⟨a', b'⟩ := z'
    rw [List.getElem?_zip_eq_some, List.getElem?_map, List.getElem?_map, Option.map_eq_some_iff, Option.map_eq_some_iff] at hz hz'
    obtain ⟨⟨x, hx, rfl⟩, ⟨y, hy, rfl⟩⟩ := hz
    obtain ⟨⟨x', hx', rfl⟩, ⟨y', hy', rfl⟩⟩ := hz'
    rw [hx] at hy; rw [hx'] at hy'
    obtain rfl := Option.some.inj hy
    obtain rfl := Option.some.inj hy'
    obtain ⟨q1, q2, q3⟩ := hs.mv i x x' hx hx'
    exact ⟨q1, q2, (mvh i x x' hx hx').2⟩
  have zr : ∀ z ∈ (w.moves.map (mvS (mv0 told))).zip (w.moves.map fun x => (stp (mv0 told) x.when).1), 0 ≤ z.2 ∧ z.2 ≤ 2 := by
    intro z hz
    have := (List.of_mem_zip hz).2
    rw [List.mem_map] at this
    obtain ⟨x, hx, e⟩ := this
    rw [← e]
    exact (mok x hx).2.1
  have rep : List.replicate w.phases.length false = List.replicate w'.phases.length false := by rw [hs.ph]
  have pos : sbs (bC told w) (bC told' w') := by
    unfold bC
    rw [rep]
    exact poss_hon zs zr _ _ 0 _ _ hs.po (sbs_refl _)
  have pl := wfW_phl (told := told) hw
  have pl' := wfW_phl (told := told') hw'
  have sm : bC told w ≠ [] → some1 (bC told w) := by
    intro q
    have hP : 0 < P := by rw [← pl]; exact List.length_pos_iff.2 q
    have : some1 w.possible := hs.so (List.length_pos_iff.1 (by rw [hw.po]; exact hP))
    unfold bC
    refine poss_some _ _ 0 _ ?_ ?_ this
    · intro z hz
      have := (List.of_mem_zip hz).1
      rw [List.mem_map] at this
      obtain ⟨x, hx, e⟩ := this
      rw [← e, List.length_replicate, hw.ph]
      exact (hw.mv x hx).1
    · rw [List.length_replicate, hw.ph, hw.po]; omega
  have tr : ∀ t ∈ (nxt told w).1, 0 ≤ t ∧ t ≤ 2 := n3
  have key : ∀ (n i : Nat), i < n → ∀ k k', w.rules[i]? = some k → w'.rules[i]? = some k' →
      Hn (stp (gG.mk told (bC told w) ((nxt told w).1.take i)) k).2 (stp (gG.mk told' (bC told' w') ((nxt told' w').1.take i)) k').2 ∧ hon (stp (gG.mk told (bC told w) ((nxt told w).1.take i)) k).1 (stp (gG.mk told' (bC told' w') ((nxt told' w').1.take i)) k').1 := by
    intro n
    induction n with
    | zero => intro i h; omega
    | succ n ih =>
      intro i hi k k' hk hk'
      have hil : i < w.rules.length := (List.getElem?_eq_some_iff.1 hk).1
      have hm : HM (gG.mk told (bC told w) ((nxt told w).1.take i)) (gG.mk told' (bC told' w') ((nxt told' w').1.take i)) := by
        refine ⟨h, hb, hb', pos, sm, by show (bC told w).length ≤ _; rw [pl]; have := hw.pb; omega, ?_, fun j x x' hx hx' => ?_⟩
        · show ((nxt told w).1.take i).length = ((nxt told' w').1.take i).length
          rw [List.length_take, List.length_take, (aV told w).1, (aV told' w').1, hs.rl]
        · change ((nxt told w).1.take i)[j]? = some x at hx
          change ((nxt told' w').1.take i)[j]? = some x' at hx'
          rw [List.getElem?_take] at hx hx'
          split at hx
          · rename_i c
            rw [if_pos c] at hx'
            have e : w.rules[j]? = some w.rules[j] := List.getElem?_eq_getElem (by omega)
            have e' : w'.rules[j]? = some (w'.rules[j]'(by rw [← hs.rl]; omega)) := List.getElem?_eq_getElem _
            have q := (ih j (by omega) _ _ e e').2
            rw [(nxt_get e).1] at hx
            rw [(nxt_get e').1] at hx'
            obtain rfl := Option.some.inj hx
            obtain rfl := Option.some.inj hx'
            exact q
          · cases hx
      refine hn_stp (T := T) (P := P) (R := i) hm ht.symm (show P = (bC told w).length from pl.symm) (fun x hx hd => ?_) (hs.ru i k k' hk hk') (hw.ru i k hk).1 (hw'.ru i k' hk').1 (hw.ru i k hk).2
      have hrl : i ≤ ((nxt told w).1.take i).length := by rw [List.length_take, (aV told w).1]; omega
      exact (node_ok (m := gG.mk told (bC told w) ((nxt told w).1.take i)) (R := i) (by show (bC told w).length ≤ _; rw [pl]; have := hw.pb; omega) hrl (fun t ht => tr t (List.mem_of_mem_take ht)) hd (by show wfN told.length (bC told w).length i x; rw [ht, pl]; exact hx)).2.1
  have get' : ∀ (i : Nat) (hi : i < w.rules.length), w'.rules[i]? = some (w'.rules[i]'(by rw [← hs.rl]; exact hi)) := fun i hi => List.getElem?_eq_getElem _
  refine ⟨⟨hs.ph, by show (w.moves.map _).length = (w'.moves.map _).length; rw [List.length_map, List.length_map]; exact hs.ml, fun i x x' hx hx' => ?_, by rw [(aV told w).2, (aV told' w').2]; exact hs.rl, fun i x x' hx hx' => ?_, pos, sm⟩, ?_, fun i x x' hx hx' => ?_⟩
  · change (w.moves.map (mvS (mv0 told)))[i]? = some x at hx
    change (w'.moves.map (mvS (mv0 told')))[i]? = some x' at hx'
    rw [List.getElem?_map, Option.map_eq_some_iff] at hx hx'
    obtain ⟨y, hy, rfl⟩ := hx
    obtain ⟨y', hy', rfl⟩ := hx'
    obtain ⟨q1, q2, q3⟩ := hs.mv i y y' hy hy'
    exact ⟨q1, q2, (mvh i y y' hy hy').1⟩
  · have hi : i < w.rules.length := by rw [← (aV told w).2]; exact (List.getElem?_eq_some_iff.1 hx).1
    have e : w.rules[i]? = some w.rules[i] := List.getElem?_eq_getElem hi
    rw [(nxt_get e).2] at hx
    rw [(nxt_get (get' i hi)).2] at hx'
    obtain rfl := Option.some.inj hx
    obtain rfl := Option.some.inj hx'
    exact (key (i + 1) i (Nat.lt_succ_self _) _ _ e (get' i hi)).1
  · rw [(aV told w).1, (aV told' w').1]; exact hs.rl
  · have hi : i < w.rules.length := by rw [← (aV told w).1]; exact (List.getElem?_eq_some_iff.1 hx).1
    have e : w.rules[i]? = some w.rules[i] := List.getElem?_eq_getElem hi
    rw [(nxt_get e).1] at hx
    rw [(nxt_get (get' i hi)).1] at hx'
    obtain rfl := Option.some.inj hx
    obtain rfl := Option.some.inj hx'
    exact (key (i + 1) i (Nat.lt_succ_self _) _ _ e (get' i hi)).2
theorem hnW_run {f g:Nat→List fO}{w w':gY}{T P:Nat}(hw:WfW w T P)(hw':WfW w' T P)(hs:HnW w w')(hf: ∀k,(f k).length=T)(h: ∀k,pw honT (f k) (g k))(hb: ∀k,∀x ∈ f k,big x)(hb': ∀k,∀x ∈ g k,big x):
    ∀n,HnW (runT f w n).2 (runT g w' n).2∧pw hon (nxt (f n) (runT f w n).2).1 (nxt (g n) (runT g w' n).2).1:=by
  have hg: ∀k,(g k).length=T:=fun k=>by rw [← (h k).1]; exact hf k
  have h1: ∀n,HnW (runT f w n).2 (runT g w' n).2:=by
    intro n
    induction n with
    | zero=>exact hs
    | succ n ih=>exact (hnW_nxt (runT_wf hw hf n) (runT_wf hw' hg n) ih (hf n) (h n) (hb n) (hb' n)).1
  exact fun n=>⟨h1 n,(hnW_nxt (runT_wf hw hf n) (runT_wf hw' hg n) (h1 n) (hf n) (h n) (hb n) (hb' n)).2⟩
end Go.Lf
