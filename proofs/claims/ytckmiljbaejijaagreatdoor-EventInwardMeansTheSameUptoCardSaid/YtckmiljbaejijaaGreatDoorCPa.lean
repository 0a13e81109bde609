/- Walks: what each function computes, for every argument; no condition but those that stand in the statements. -/
import Derived.Test.YtckmiljbaejijaaGreatDoorEVa
namespace Go.Lf
open Go.OB
def inwR (c:Cond):Cond×Int:=if ckC c=0 then if ckC (inw false c)=0 then (inw false c,0) else (⟨0,[],[],0,0,0,[]⟩,3) else (⟨0,[],[],0,0,0,[]⟩,ckC c)
theorem dec_ne {a b:Int}(h:a=b):decide (a≠b)=false:=decide_eq_false (by simpa using h)
theorem Inward_eq (c : Cond) (ok : okC c) : Fc0 c = some (inwR c) := by
  unfold Fc0 inwR
  rw [nM c ok, zU]
  simp only [yB]
  by_cases h : ckC c = 0
  · have g := gt_of ok h
    have hd := g.d
    obtain ⟨o2, e2⟩ := aIl 20 false c hd g
    have w1 : Feb c false = some (inw false c) := aFu FU false c (Nat.le_of_lt (aCk (by omega))) g
    rw [if_pos h, dec_ne h, yX, w1, zU, nM _ o2, zU]
    by_cases h2 : ckC (inw false c) = 0
    · rw [if_pos h2, dec_ne h2]; rfl
    · have h3 : ckC (inw false c) = 3 := by
        unfold ckC at h2 ⊢
        split
        · rename_i q; rw [if_pos q] at h2; exact absurd e2 h2
        · rfl
      rw [if_neg h2, h3]; rfl
  · rw [if_neg h, decide_eq_true h]; rfl
theorem aHa (f:Cond→Cond): ∀l:List Cond,(∀x ∈ l,aG (f x)=aG x)→jG (l.map f)=jG l
  | [],_=>rfl
  | c :: l,h=>by rw [List.map_cons,jG,jG,h c List.mem_cons_self,aHa f l fun x hx=>h x (List.mem_cons_of_mem _ hx)]
theorem aSb : ∀ (m : Nat) (b : Bool) (c : Cond), dN c ≤ m → Gt c → aG (inw b c) = aG c
  | 0, _, c, h, _ => by have := pO c; omega
  | m + 1, b, c, h, g => by
    have hk : ∀ (d : Bool) x, x ∈ c.Kids → aG (inw d x) = aG x := fun d x hx => by
      obtain ⟨j, hj⟩ := List.getElem?_of_mem hx
      exact aSb m d x (by have := (jQ g.ok hj).2.1; omega) (g.kid hx)
    by_cases h8 : c.Kind = 8
    · obtain ⟨x, hx⟩ := bV (g.gk.o (by omega))
      rw [aNv b c x h8 (by rw [hx]; rfl), hk (!b) x (by rw [hx]; exact List.mem_cons_self), nT c, hx]
      unfold nm1
      rw [if_neg (by omega), if_neg (by omega), jG, jG, List.nil_append, List.append_nil]
    · have e := aHa (inw (if kp c.Kind = true then false else b)) c.Kids fun x hx => hk _ x hx
      have gs := g.self
      rw [aNg b c h8]
      obtain ⟨k, nm, ot, op, n, fr, ks⟩ := c
      simp only at e h8 gs ⊢
      have gk1 := gs.k1
      simp only at gk1
      generalize ks.map (inw (if kp k = true then false else b)) = ls at e ⊢
      have fin : ∀ k' op' n' : Int, nm1 ⟨k', nm, ot, op', n', fr, ls⟩ = nm1 ⟨k, nm, ot, op, n, fr, ks⟩ → aG ⟨k', nm, ot, op', n', fr, ls⟩ = aG ⟨k, nm, ot, op, n, fr, ks⟩ := fun k' op' n' h => by
        rw [nT, nT ⟨k, nm, ot, op, n, fr, ks⟩, h]; simp only [e]
      unfold aLm
      split
      · split
        · rw [nT ⟨8, [], [], 0, 0, 0, _⟩, jG, jG, fin _ _ _ rfl, List.append_nil]; rfl
        · exact fin _ _ _ rfl
      · split
        · split
          · exact fin _ _ _ rfl
          · split
            · exact fin _ _ _ rfl
            · rename_i q1 q2 q3 q4
              rw [kp_iff] at q1
              refine fin _ _ _ ?_
              unfold nm1
              simp only
              rw [if_neg (by unfold swp; omega), if_neg (by unfold swp; omega), if_neg (by omega), if_neg (by omega)]
        · exact fin _ _ _ rfl
theorem aIb {p:Cond→Bool}(f:Cond→Cond): ∀l:List Cond,(∀x ∈ l,nS p (f x)=false)→tC p (l.map f)=false
  | [],_=>rfl
  | c :: l,h=>by rw [List.map_cons,tC,h c List.mem_cons_self,aIb f l fun x hx=>h x (List.mem_cons_of_mem _ hx)]; rfl
theorem aQo (r : Rules) (i : Nat) : ∀ (m : Nat) (b : Bool) (c : Cond), dN c ≤ m → Gt c → nS (pRl r i) c = false → nS (pRl r i) (inw b c) = false
  | 0, _, c, h, _, _ => by have := pO c; omega
  | m + 1, b, c, h, g, ha => by
    have hk : ∀ (d : Bool) x, x ∈ c.Kids → nS (pRl r i) (inw d x) = false := fun d x hx => by
      obtain ⟨j, hj⟩ := List.getElem?_of_mem hx
      exact aQo r i m d x (by have := (jQ g.ok hj).2.1; omega) (g.kid hx) (aSf hx ha)
    by_cases h8 : c.Kind = 8
    · obtain ⟨x, hx⟩ := bV (g.gk.o (by omega))
      rw [aNv b c x h8 (by rw [hx]; rfl)]
      exact hk (!b) x (by rw [hx]; exact List.mem_cons_self)
    · have e := aIb (p := pRl r i) (inw (if kp c.Kind = true then false else b)) c.Kids fun x hx => hk _ x hx
      have s := aKs ha
      rw [aNg b c h8]
      obtain ⟨k, nm, ot, op, n, fr, ks⟩ := c
      simp only at e h8 s ⊢
      have other : ∀ (k' op' n' : Int) (ls : List Cond), ¬ k' = 6 → ¬ k' = 7 → pRl r i ⟨k', nm, ot, op', n', fr, ls⟩ = false := fun k' op' n' ls h6 h7 => by
        unfold pRl; simp [h6, h7]
      have same : ∀ ls : List Cond, pRl r i ⟨k, nm, ot, op, n, fr, ls⟩ = false := fun ls => by
        unfold pRl at s ⊢; exact s
      generalize ks.map (inw (if kp k = true then false else b)) = ls at e ⊢
      have fin : ∀ x : Cond, pRl r i x = false → tC (pRl r i) x.Kids = false → nS (pRl r i) x = false := fun x h1 h2 => by rw [aKd, h1, h2]; rfl
      unfold aLm
      split
      · split
        · refine fin _ (by unfold pRl; simp) ?_
          show tC (pRl r i) [_] = false
          rw [tC, fin _ (same ls) e]; rfl
        · exact fin _ (same ls) e
      · split
        · split
          · exact fin _ (other _ _ _ _ (by omega) (by omega)) e
          · split
            · exact fin _ (other _ _ _ _ (by omega) (by omega)) e
            · exact fin _ (other _ _ _ _ (by unfold swp; omega) (by unfold swp; omega)) e
        · exact fin _ (same ls) e
def qJ (x:dH):dH:=dH.mk x.Name (inw false x.When)
def qK (r:Rules):Rules:=Rules.mk r.Phases r.Moves (r.Rules.map qJ)
theorem aRw (l:List dH)(s:Str):nmd (l.map qJ) s=nmd l s:=by
  unfold nmd
  rw [List.any_map]; rfl
theorem pRl_inw (r:Rules)(i:Nat)(c:Cond):pRl (qK r) i c=pRl r i c:=by
  unfold pRl
  show (_ || (decide (c.Kind=7) && !nmd ((r.Rules.map qJ).take i) c.Name))=_
  rw [← List.map_take,aRw]; rfl
theorem aOi {p q:Cond→Bool}(h: ∀c,p c=q c): ∀c,nS p c=nS q c:=by
  have:p=q:=funext h
  intro c; rw [this]
theorem vF {α:Type}(e:Nat→α→Int)(fin:Option Int): ∀(l:List α) (i:Nat),(∀(j:Nat) x,l[j]? =some x→e (i+j) x=0)→bD (fun i x=>if e i x=0 then none else some (some (e i x))) fin l i=fin
  | [],_,_=>rfl
  | x :: l,i,h=>by
    have h0:e i x=0:=by have:=h 0 x rfl; rwa [Nat.add_zero] at this
    rw [bD,if_pos h0]
    exact vF e fin l (i+1) fun j y hy=>by
      have:=h (j+1) y (by simpa using hy)
      rwa [show i+1+j=i+(j+1) by omega]
theorem aHi {r : Rules} (h : chk r = some 0) : (r.Phases.length ≤ 20 ∧ r.Moves.length ≤ 60 ∧ r.Rules.length ≤ 60) ∧ (∀ (j : Nat) x, r.Phases[j]? = some x → phE r.Phases j x = 0) ∧ (∀ (j : Nat) x, r.Moves[j]? = some x → mvE r x = 0) ∧ (∀ (j : Nat) x, r.Rules[j]? = some x → rlE r j x = 0) := by
  unfold chk at h
  split at h
  · exact absurd (Option.some.inj h) (by decide)
  · rename_i c
    obtain ⟨h1, h2⟩ := bH (phE r.Phases) _ _ _ h
    obtain ⟨h3, h4⟩ := bH (fun _ => mvE r) _ _ _ h1
    obtain ⟨h5, h6⟩ := bH (rlE r) _ _ _ h3
    simp only [Bool.or_eq_true, decide_eq_true_eq, not_or] at c
    refine ⟨by omega, fun j x hx => ?_, fun j x hx => h4 j x hx, fun j x hx => ?_⟩
    · have := h2 j x hx; rwa [Nat.zero_add] at this
    · have := h6 j x hx; rwa [Nat.zero_add] at this
theorem inwQ_chk {r : Rules} (ok : okR r) (h : chk r = some 0) (hi : ∀ x ∈ r.Rules, ckC (inw false x.When) = 0) : chk (qK r) = some 0 := by
  obtain ⟨h0, h1, h2, h3⟩ := aHi h
  have g := aEm ok h
  have hr := aPw h
  unfold chk
  rw [if_neg]
  · rw [vF (phE (qK r).Phases) _ _ 0 fun j x hx => by rw [Nat.zero_add]; exact h1 j x hx]
    rw [vF (fun _ => mvE (qK r)) _ (qK r).Moves 0 fun j x hx => h2 j x hx]
    refine vF (rlE (qK r)) _ _ 0 fun j x hx => ?_
    rw [Nat.zero_add]
    change (r.Rules.map qJ)[j]? = some x at hx
    rw [List.getElem?_map, Option.map_eq_some_iff] at hx
    obtain ⟨y, hy, rfl⟩ := hx
    have my := List.mem_of_getElem? hy
    have gy := (g.lg y my).1
    have e := h3 j y hy
    unfold rlE at e ⊢
    have a : nS (pRl (qK r) j) (inw false y.When) = false := by
      rw [aOi (pRl_inw r j)]
      exact aQo r j (dN y.When) false y.When (Nat.le_refl _) gy (hr j y hy).2
    have nm : nmd ((qK r).Rules.take j) (qJ y).Name = false := by
      show nmd ((r.Rules.map qJ).take j) y.Name = false
      rw [← List.map_take, aRw]; exact (hr j y hy).1
    have n1 : uG (qJ y).Name = true := by
      cases hN : uG y.Name with
      | true => exact hN
      | false => rw [hN, if_neg (by simp)] at e; exact absurd e (by decide)
    rw [n1, nm]
    show (if true = true then if false = true then 5 else if ckC (inw false y.When) = 0 then if nS (pRl (qK r) j) (inw false y.When) = true then 4 else 0 else ckC (inw false y.When) else 8) = 0
    rw [if_pos rfl, if_neg (by simp), if_pos (hi y my), a, if_neg (by simp)]
  · show ¬ _
    simp only [Bool.or_eq_true, decide_eq_true_eq, not_or]
    refine ⟨⟨?_, ?_⟩, ?_⟩
    · show ¬ 20 < (r.Phases.length : Int); omega
    · show ¬ 60 < (r.Moves.length : Int); omega
    · show ¬ 60 < ((r.Rules.map qJ).length : Int); rw [List.length_map]; omega
theorem inwQ_nm {r:Rules}(g:Gr' r):jW (qK r)=jW r:=by
  have key: ∀l:List dH,(∀x ∈ l,Gt x.When)→(l.map qJ).flatMap (fun x=>aG x.When)=l.flatMap fun x=>aG x.When:=by
    intro l
    induction l with
    | nil=>intro _; rfl
    | cons x l ih=>
      intro hx
      have gx:=hx x List.mem_cons_self
      rw [List.map_cons,List.flatMap_cons,List.flatMap_cons,ih fun y hy=>hx y (List.mem_cons_of_mem _ hy)]
      congr 1
      exact aSb (dN x.When) false x.When (Nat.le_refl _) gx
  unfold jW
  congr 1
  exact key r.Rules fun x hx=>(g.lg x hx).1
theorem inwQ_gb {r:Rules}{l:List fH}(h:GB r l)(hi: ∀x ∈ r.Rules,ckC (inw false x.When)=0):GB (qK r) l:=by
  refine ⟨?_,inwQ_chk h.ok h.c hi,h.t,fun s hs=>h.n s (by rw [← inwQ_nm h.g]; exact hs)⟩
  obtain ⟨p1,p2,p3,p4⟩:=h.ok
  refine ⟨p1,p2,by show (r.Rules.map qJ).length≤_; rw [List.length_map]; exact p3,fun x hx=>?_⟩
  obtain ⟨y,hy,rfl⟩:=List.mem_map.1 hx
  exact ⟨(p4 y hy).1,(aIl (dN y.When) false y.When (Nat.le_refl _) (h.g.lg y hy).1).1⟩
theorem inwQ_new {r:Rules}{l:List fH}(h:GB r l):aQ (qK r) l=aJx (aQ r l):=by
  have mk: ∀i,MkR (qK r) l i=MkR r l i:=by
    intro i
    unfold MkR
    have:((qK r).Rules.take i).map dH.Name=(r.Rules.take i).map dH.Name:=by
      show ((r.Rules.map qJ).take i).map dH.Name=_
      rw [← List.map_take,List.map_map]; rfl
    rw [this]; rfl
  have e:(qK r).Rules.mapIdx (rlN (qK r) l)=(r.Rules.mapIdx (rlN r l)).map (dD false):=by
    apply List.ext_getElem?
    intro i
    rw [List.getElem?_mapIdx,List.getElem?_map,List.getElem?_mapIdx]
    show Option.map _ ((r.Rules.map qJ)[i]?)=_
    rw [List.getElem?_map]
    cases hx:r.Rules[i]? with
    | none=>rfl
    | some x=>
      simp only [Option.map_some]
      congr 1
      show mkN (MkR (qK r) l i) (inw false x.When)=dD false (mkN (MkR r l i) x.When)
      have gx:=(h.g.lg x (List.mem_of_getElem? hx)).1
      rw [mk,aSa _ (dN x.When) false x.When (Nat.le_refl _) gx]
  have em:(qK r).Moves.map (mvN (qK r) l)=r.Moves.map (mvN r l):=by
    refine List.map_congr_left fun m _=>?_
    unfold mvN
    rw [mk]; rfl
  unfold aQ aJx
  rw [e,em]; rfl
theorem inwQ_ev {r:Rules}{l:List fH}(h:GB r l)(a b:Int):evV (qK r) l a b=evV r l a b:=by
  have hd: ∀k ∈ (aQ r l).rules,dpN k≤900000:=by
    intro k hk
    change k ∈ r.Rules.mapIdx (rlN r l) at hk
    obtain ⟨i,hi⟩:=List.getElem?_of_mem hk
    rw [List.getElem?_mapIdx,Option.map_eq_some_iff] at hi
    obtain ⟨x,hx,rfl⟩:=hi
    have gd:=(h.g.lg x (List.mem_of_getElem? hx)).1.d
    have d:=aJw (MkR r l i) x.When
    show dpN (mkN (MkR r l i) x.When)≤_
    omega
  unfold evV
  rw [inwQ_new h,(aKt (aSw h) (aJv l a) hd (spn a b)).1]
  show cols (r.Rules.map qJ).length _=_
  rw [List.length_map]
theorem lists_ex (l : List (List Int)) (e : Int) (h1 : l.length ≤ 1000) (h2 : ∀ x ∈ l, x.length ≤ 100000) : ∃ t, Fbv l e = some t := by
  unfold Fbv
  have key : ∃ q, Fcd (gU.mk []) l = some q ∧ q.out.length ≤ 10000000000 := by
    unfold Fcd
    simp only [yB]
    obtain ⟨p, h3, h4⟩ := aCx (gU.mk []) (l.length : Int) (b := 0) (by simp) (by omega)
    rw [h3, zU]
    unfold Fem
    refine nZ (fun (i : Nat) (s : List Int) => ((i : Int), s)) l (fun i s => s.length ≤ 22 + i * 5000000) (fun (r : gU) => r.out.length ≤ 10000000000) (by omega) ?_ ?_ _ (by simpa using h4)
    · intro kk i s x hx hi hI
      have hxl := h2 x (List.mem_of_getElem? hx)
      have hi2 : i * 5000000 ≤ 1000 * 5000000 := Nat.mul_le_mul_right _ (by omega)
      obtain ⟨r, h5, h6⟩ := ink_Ints (gU.mk s) x (b := 22 + i * 5000000) (by simpa using hI) (by omega)
      refine ⟨r.out, by rw [Nat.succ_mul]; omega, ?_⟩
      simp only [yB]
      rw [wF hi, yU, dP hx, zU, h5, zU, dE hi (by omega)]
    · intro kk s hI
      have hi2 : l.length * 5000000 ≤ 1000 * 5000000 := Nat.mul_le_mul_right _ h1
      simp only [yB]
      rw [wE, yX]
      exact ⟨_, rfl, by simpa using (Nat.le_trans hI (by omega) : s.length ≤ 10000000000)⟩
  obtain ⟨q, h3, h4⟩ := key
  obtain ⟨q2, h5, h6⟩ := aCx q e h4 (by omega)
  rw [h3, zU]
  unfold Fda Fc6
  rw [h5]
  exact ⟨_, rfl⟩
theorem gb_both {r:Rules}{l:List fH}(h:GB r l):aBd r l=0:=by
  unfold aBd
  rw [h.c,Option.getD_some,if_neg (by simp),h.t,if_neg (by simp),if_pos]
  rw [List.all_eq_true]
  intro s hs
  unfold aLd at hs
  rw [aBj] at hs
  obtain ⟨t,t1,t2⟩:=List.mem_map.1 (h.n s (hs.resolve_left (by simp)))
  rw [List.any_eq_true]
  exact ⟨t,t1,by simpa using t2⟩
theorem aLh {β γ:Type}{body:(γ→Option β)→γ→Option β}(enc:Nat→γ)(n:Nat)(I:Nat→Prop)(r:Option β)(h: ∀k i,i<n→I i→(I (i+1)∧body k (enc i)=k (enc (i+1)))∨body k (enc i)=r)(hx: ∀k,I n→body k (enc n)=r): ∀(d i fu:Nat),i+d=n→d<fu→I i→fV body fu (enc i)=r
  | 0,i,fu,hi,hf,hI=>by
    obtain ⟨m,rfl⟩: ∃m,fu=m+1:=⟨fu - 1,by omega⟩
    obtain rfl:i=n:=by omega
    rw [fV]; exact hx _ hI
  | d+1,i,fu,hi,hf,hI=>by
    obtain ⟨m,rfl⟩: ∃m,fu=m+1:=⟨fu - 1,by omega⟩
    rw [fV]
    rcases h (fV body m) i (by omega) hI with ⟨h1,h2⟩ | h1
    · rw [h2]; exact aLh enc n I r h hx d (i+1) m (by omega) (by omega) h1
    · exact h1
theorem iv_loop {r : Rules} (h : Gr' r) (hok : okR r) (hc : ∀ x ∈ r.Rules, ckC x.When = 0) (K : List dH → Option Bool) (hK : (∀ x ∈ r.Rules, ckC (inw false x.When) = 0) → K (r.Rules.map qJ) = some true) :
    Fd1 r K (0, []) = some true := by
  have hl := h.l
  unfold Fd1 eQ
  refine aLh (fun i => ((i : Int), (r.Rules.take i).map qJ)) r.Rules.length (fun i => ∀ (j : Nat) x, j < i → r.Rules[j]? = some x → ckC (inw false x.When) = 0) (some true) (fun k i hi hq => ?_) (fun k hq => ?_) r.Rules.length 0 FU (by omega) (aCk (by omega)) (fun j x hj => by omega)
  · have hx : r.Rules[i]? = some r.Rules[i] := List.getElem?_eq_getElem hi
    have mx := List.mem_of_getElem? hx
    have ok := (hok.2.2.2 _ mx).2
    simp only [yB]
    rw [wF hi, yU, dP hx, zU, Inward_eq _ ok, zU]
    unfold inwR
    rw [if_pos (hc _ mx)]
    by_cases c : ckC (inw false r.Rules[i].When) = 0
    · left
      refine ⟨fun j x hj hjx => ?_, ?_⟩
      · by_cases e : j = i
        · subst e; rw [hx] at hjx; obtain rfl := Option.some.inj hjx; exact c
        · exact hq j x (by omega) hjx
      · rw [if_pos c]
        simp only [ne_eq, not_true_eq_false, decide_false, yX, zU]
        have a104 : app' 104 ((r.Rules.take i).map qJ) [dH.mk r.Rules[i].Name (inw false r.Rules[i].When)] = some ((r.Rules.take i).map qJ ++ [qJ r.Rules[i]]) := by
          unfold app'
          rw [if_pos ⟨by rw [maxLen_eq]; simp; omega, by simp; omega⟩]; rfl
        rw [a104, zU, dE (n := 60) (by omega) (by omega), show (r.Rules.take i).map qJ ++ [qJ r.Rules[i]] = (r.Rules.take (i + 1)).map qJ by rw [nU hx, List.map_append]; rfl]
    · right
      rw [if_neg c]
      simp [wX, gG, gQ]
  · simp only [yB]
    rw [wE, yX, List.take_length]
    exact hK fun x hx => by
      obtain ⟨j, hj⟩ := List.getElem?_of_mem hx
      exact hq j x (List.getElem?_eq_some_iff.1 hj).1 hj
theorem aGc (r : Rules) (l : List fH) (a b : Int) (hr : aIy r) (hl : okL (fun x => sN x) l) (ha : i64 a) (hb : i64 b) (hn : r.Rules.length ≤ 2000000) : Fdp r l a b = some true := by
  have e1 := aCl hr hl hn ha hb
  have okr : okR r := hr
  unfold Fdp
  by_cases z : evE r l a b = 0
  · obtain ⟨g, s⟩ := ev_gb okr z
    obtain ⟨s1, s2, s3, s4⟩ := aSj s
    have hn2 : spn a b = (b - a + 1).toNat := rfl
    rw [if_pos z] at e1
    rw [e1, zU]
    simp only [yB, ne_eq, not_true_eq_false, decide_false, yX, wG]
    have gl := g.g.l
    have hc : ∀ x ∈ r.Rules, ckC x.When = 0 := fun x hx => by
      obtain ⟨-, -, -, h3⟩ := aHi g.c
      obtain ⟨j, hj⟩ := List.getElem?_of_mem hx
      have e := h3 j x hj
      unfold rlE at e
      split at e
      · split at e
        · exact absurd e (by decide)
        · split at e
          · assumption
          · rename_i q; exact absurd e q
      · exact absurd e (by decide)
    refine iv_loop g.g okr hc _ fun hi => ?_
    have gq := inwQ_gb g hi
    have eq := aCl (r := qK r) gq.ok hl (by show (r.Rules.map qJ).length ≤ _; rw [List.length_map]; omega) ha hb
    rw [if_pos (by unfold evE; rw [gb_both gq, if_neg (by simp)]; exact s), inwQ_ev g] at eq
    show gG (Fa2 (qK r) l a b) _ = _
    rw [eq, zU]
    have l1 : (evV r l a b).length = r.Rules.length := rD _ _
    obtain ⟨t, ht⟩ := lists_ex (evV r l a b) 0 (by omega) fun x hx => by
      obtain ⟨i, hi⟩ := List.getElem?_of_mem hx
      have hil : i < r.Rules.length := by rw [← l1]; exact (List.getElem?_eq_some_iff.1 hi).1
      unfold evV at hi
      rw [aFs hil] at hi
      obtain rfl := Option.some.inj hi
      rw [List.length_map, aEy]; omega
    simp only [ht, zU, decide_true, yU, wX]
  · rw [if_neg z] at e1
    rw [e1, zU]
    simp only [yB, ne_eq, z, not_false_eq_true, decide_true, yU, wX, zU]
end Go.Lf
