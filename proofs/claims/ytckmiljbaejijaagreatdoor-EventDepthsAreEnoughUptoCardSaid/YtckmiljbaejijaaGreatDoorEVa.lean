/- Walks: what each function computes, for every argument; no condition but those that stand in the statements. -/
import Derived.Test.YtckmiljbaejijaaGreatDoorKFa
import Derived.Test.YtckmiljbaejijaaGreatDoorWTa
import Derived.Test.YtckmiljbaejijaaGreatDoorVUa
namespace Go.Lf
open Go.OB
structure Gkl (l:List Cond):Prop where
  ok: ∀x ∈ l,okC x
  e: ∀x ∈ l,fE ck1 x=0
theorem i0:i64 0:=⟨by decide,by decide⟩
end Go.Lf
namespace Go.Lf
open Go.OB
structure Mk where
  tr:Str→Int
  dn:Int→Int
  ph:Str→Int
  rl:Str→Int
def mkK (M:Mk)(k:Int)(nm ot:Str)(op n fr:Int)(ks:List Nd):Nd:=
  if k=1 then .constant 2 else if k=2 then .constant 1 else if k=3 then .number (M.tr nm) op n
  else if k=4 then .pair (M.tr nm) (M.tr ot) (M.dn (M.tr nm)) (M.dn (M.tr ot)) op
  else if k=5 then .steady (M.tr nm) n fr [] else if k=6 then .phase (M.ph nm) else if k=7 then .rule (M.rl nm)
  else if k=8 then .not (ks.getD 0 (.constant 0)) else if k=9∨k=10 then .group ks (decide (k=10))
  else if k=11 then .count (ks.getD 0 (.constant 0)) fr fr [] (qF []) else if k=12 then .count (ks.getD 0 (.constant 0)) 1 fr [] (qF [])
  else if k=13 then .count (ks.getD 0 (.constant 0)) n fr [] (qF []) else if k=14 then .since (ks.getD 0 (.constant 0)) (ks.getD 1 (.constant 0)) 0 false
  else .rises (ks.getD 0 (.constant 0)) 0 false
mutual
def mkN (M:Mk):Cond→Nd
  | ⟨k,nm,ot,op,n,fr,ks⟩=>mkK M k nm ot op n fr (aJr M ks)
def aJr (M:Mk):List Cond→List Nd
  | []=>[]
  | c :: l=>mkN M c :: aJr M l
end
theorem aKs (M:Mk): ∀l,aJr M l=l.map (mkN M)
  | []=>by rw [aJr]; rfl
  | c :: l=>by rw [aJr,aKs M l]; rfl
theorem aOj (M:Mk)(c:Cond):mkN M c=mkK M c.Kind c.Name c.Other c.Op c.N c.Frames (c.Kids.map (mkN M)):=by
  obtain ⟨k,nm,ot,op,n,fr,ks⟩:=c
  rw [mkN,aKs]
theorem kinds {k:Int}(h:1≤k∧k≤15):k=1∨k=2∨k=3∨k=4∨k=5∨k=6∨k=7∨k=8∨k=9∨k=10∨k=11∨k=12∨k=13∨k=14∨k=15:=by omega
theorem aRf (ks:List Nd)(i:Nat):dpN (ks.getD i (.constant 0))≤dpL ks:=by
  rw [List.getD_eq_getElem?_getD]
  cases h:ks[i]? with
  | none=>exact Nat.zero_le _
  | some k=>exact aAd (List.mem_of_getElem? h)
theorem mkK_dp (M:Mk)(k:Int)(nm ot:Str)(op n fr:Int)(ks:List Nd):dpN (mkK M k nm ot op n fr ks)≤dpL ks+1:=by
  have h0:=aRf ks 0
  have h1:=aRf ks 1
  unfold mkK
  by_cases e0:k=1
  · rw [if_pos e0]; exact Nat.zero_le _
  rw [if_neg e0]
  by_cases e1:k=2
  · rw [if_pos e1]; exact Nat.zero_le _
  rw [if_neg e1]
  by_cases e2:k=3
  · rw [if_pos e2]; exact Nat.zero_le _
  rw [if_neg e2]
  by_cases e3:k=4
  · rw [if_pos e3]; exact Nat.zero_le _
  rw [if_neg e3]
  by_cases e4:k=5
  · rw [if_pos e4]; exact Nat.zero_le _
  rw [if_neg e4]
  by_cases e5:k=6
  · rw [if_pos e5]; exact Nat.zero_le _
  rw [if_neg e5]
  by_cases e6:k=7
  · rw [if_pos e6]; exact Nat.zero_le _
  rw [if_neg e6]
  by_cases e7:k=8
  · rw [if_pos e7]; rw [dpN]; omega
  rw [if_neg e7]
  by_cases e8:k=9∨k=10
  · rw [if_pos e8]; rw [dpN]; exact Nat.le_refl _
  rw [if_neg e8]
  by_cases e9:k=11
  · rw [if_pos e9]; rw [dpN]; omega
  rw [if_neg e9]
  by_cases e10:k=12
  · rw [if_pos e10]; rw [dpN]; omega
  rw [if_neg e10]
  by_cases e11:k=13
  · rw [if_pos e11]; rw [dpN]; omega
  rw [if_neg e11]
  by_cases e12:k=14
  · rw [if_pos e12]; rw [dpN]; omega
  rw [if_neg e12]
  rw [dpN]; omega
mutual
theorem aOw (M:Mk): ∀c,dpN (mkN M c)≤dN c
  | ⟨k,nm,ot,op,n,fr,ks⟩=>by
    have h:=aQv M ks
    have h1:=mkK_dp M k nm ot op n fr (aJr M ks)
    rw [mkN,dN]; omega
theorem aQv (M:Mk): ∀l,dpL (aJr M l)≤dNs l
  | []=>by rw [aJr,dpL]; exact Nat.zero_le _
  | c :: l=>by
    have h:=aOw M c
    have h1:=aQv M l
    rw [aJr,dpL,dNs]; omega
end
theorem aQj {c x:Cond}(hx:x ∈ c.Kids){s:Str}(hs:s ∈ kW x):s ∈ kW c:=by
  rw [aAc,List.mem_append]
  right
  have key: ∀l:List Cond,x ∈ l→s ∈ rV l:=by
    intro l
    induction l with
    | nil=>intro h; cases h
    | cons a l ih=>
      intro h
      rw [rV,List.mem_append]
      rcases List.mem_cons.1 h with rfl | h
      · left; exact hs
      · right; exact ih h
  exact key _ hx
theorem aSd {p:Cond→Bool}{c x:Cond}(hx:x ∈ c.Kids)(h:aV p c=false):aV p x=false:=by
  rw [uS,Bool.or_eq_false_iff] at h
  have key: ∀l:List Cond,x ∈ l→rW p l=false→aV p x=false:=by
    intro l
    induction l with
    | nil=>intro h; cases h
    | cons a l ih=>
      intro h q
      rw [rW,Bool.or_eq_false_iff] at q
      rcases List.mem_cons.1 h with rfl | h
      · exact q.1
      · exact ih h q.2
  exact key _ hx h.2
theorem aLa {p:Cond→Bool}{c:Cond}(h:aV p c=false):p c=false:=by
  rw [uS,Bool.or_eq_false_iff] at h; exact h.1
theorem aB {c:Cond}(h:c.Kids.length=1): ∃x,c.Kids= [x]:=by
  match e:c.Kids,h with
  | [x],_=>exact ⟨x,rfl⟩
theorem aMm {c:Cond}(h:c.Kids.length=2): ∃x y,c.Kids= [x,y]:=by
  match e:c.Kids,h with
  | [x,y],_=>exact ⟨x,y,rfl⟩
theorem aOo (M : Mk) {T P R : Nat} (q : Cond → Bool) (hq : ∀ c, q c = false → (c.Kind = 6 → 0 ≤ M.ph c.Name ∧ M.ph c.Name < P) ∧ (c.Kind = 7 → 0 ≤ M.rl c.Name ∧ M.rl c.Name < R)) :
    ∀ (m : Nat) (c : Cond), dN c ≤ m → Gt c → (∀ s ∈ kW c, 0 ≤ M.tr s ∧ M.tr s < T) → aV q c = false → wfN T P R (mkN M c)
  | 0, c, h, _, _, _ => by have := mW c; omega
  | m + 1, c, h, g, ht, ha => by
    have hk : ∀ x ∈ c.Kids, wfN T P R (mkN M x) := fun x hx => by
      obtain ⟨j, hj⟩ := List.getElem?_of_mem hx
      exact aOo M q hq m x (by have := (jJ g.ok hj).2.1; omega) (g.kid hx) (fun s hs => ht s (aQj hx hs)) (aSd hx ha)
    have gk := g.gk
    have gs := g.self
    have hl := g.kids
    have qs := hq c (aLa ha)
    have nm : ∀ s ∈ nm1 c, 0 ≤ M.tr s ∧ M.tr s < T := fun s hs => ht s (by rw [aAc, List.mem_append]; exact Or.inl hs)
    have g1 := gs.fr
    have g2 := gs.n
    rw [aOj]
    rcases kinds gs.k1 with e | e | e | e | e | e | e | e | e | e | e | e | e | e | e <;> rw [e] <;> simp only [mkK, Int.reduceEq, if_true, if_false, or_true, true_or, or_self]
    · exact ⟨by omega, by omega⟩
    · exact ⟨by omega, by omega⟩
    · exact nm c.Name (by unfold nm1; simp [e])
    · exact ⟨nm c.Name (by unfold nm1; simp [e]), nm c.Other (by unfold nm1; simp [e])⟩
    · have := gk.fr (by omega)
      exact ⟨nm c.Name (by unfold nm1; simp [e]), ⟨by omega, by omega⟩, by simp; omega⟩
    · exact qs.1 e
    · exact qs.2 e
    · obtain ⟨x, hx⟩ := aB (gk.o (by omega))
      rw [hx]; exact hk x (by rw [hx]; exact List.mem_cons_self)
    · exact ⟨nI.2 fun x hx => by obtain ⟨y, hy, rfl⟩ := List.mem_map.1 hx; exact hk y hy, by rw [List.length_map]; omega⟩
    · exact ⟨nI.2 fun x hx => by obtain ⟨y, hy, rfl⟩ := List.mem_map.1 hx; exact hk y hy, by rw [List.length_map]; omega⟩
    · obtain ⟨x, hx⟩ := aB (gk.o (by omega))
      have := gk.fr (by omega)
      rw [hx]; exact ⟨hk x (by rw [hx]; exact List.mem_cons_self), ⟨by omega, by omega⟩, ⟨by omega, by omega⟩, by simp; omega, by simp, rfl⟩
    · obtain ⟨x, hx⟩ := aB (gk.o (by omega))
      have := gk.fr (by omega)
      rw [hx]; exact ⟨hk x (by rw [hx]; exact List.mem_cons_self), ⟨by omega, by omega⟩, ⟨by omega, by omega⟩, by simp; omega, by simp, rfl⟩
    · obtain ⟨x, hx⟩ := aB (gk.o (by omega))
      have := gk.fr (by omega)
      have := gk.cn e
      rw [hx]; exact ⟨hk x (by rw [hx]; exact List.mem_cons_self), ⟨by omega, by omega⟩, ⟨by omega, by omega⟩, by simp; omega, by simp, rfl⟩
    · obtain ⟨x, y, hx⟩ := aMm (gk.t e)
      rw [hx]; exact ⟨hk x (by rw [hx]; simp), hk y (by rw [hx]; simp), by omega, by omega⟩
    · obtain ⟨x, hx⟩ := aB (gk.o (by omega))
      rw [hx]; exact ⟨hk x (by rw [hx]; exact List.mem_cons_self), by omega, by omega⟩
end Go.Lf
namespace Go.Lf
open Go.OB
theorem aMv {α:Type}(p:α→Bool): ∀(l:List α) (i:Nat),∃n,dX (fun i x=>if p x=true then some (some (i:Int)) else none) (some (-1)) l i=some n∧(l.any p=true→(i:Int)≤n∧n<i+l.length)
  | [],i=>⟨-1,rfl,fun h=>by simp at h⟩
  | x :: l,i=>by
    rw [dX]
    cases h:p x with
    | true=>exact ⟨i,rfl,fun _=>by rw [List.length_cons]; omega⟩
    | false=>
      obtain ⟨n,h1,h2⟩:=aMv p l (i+1)
      refine ⟨n,by simpa using h1,fun q=>?_⟩
      rw [List.any_cons,h,Bool.false_or] at q
      have:=h2 q
      rw [List.length_cons]; omega
def aFl (l:List Str)(s:Str):Int:=(Fae l s).getD (-1)
theorem aAl (l : List Str) (s : Str) (hl : l.length ≤ 9223372036854775807) : Fae l s = some (aFl l s) ∧ (s ∈ l → 0 ≤ aFl l s ∧ aFl l s < l.length) := by
  obtain ⟨n, h1, h2⟩ := aMv (fun y => decide (s = y)) l 0
  have e : Fae l s = some n := by
    unfold Fae
    simp only [zU, xY]
    unfold Fdu
    rw [← h1]
    refine xU l _ _ hl ?_ ?_
    · intro kk i x hx hi
      simp only [zU, zQ]
      rw [xP hi, yM, wG hx, zQ, eQ hi hl]
      cases decide (s = x) <;> rfl
    · intro kk; simp only [zU]; rw [xQ]; rfl
  have e2 : aFl l s = n := by unfold aFl; rw [e]; rfl
  refine ⟨by rw [e2]; exact e, fun h => ?_⟩
  have := h2 (by rw [List.any_eq_true]; exact ⟨s, h, by simp⟩)
  rw [e2]; omega
def mkrM (k:fZ):Mk:=⟨fun s=>bU k.tracks s 0,fun i=>(at' k.dens i).getD 0,fun s=>aFl k.phases s,fun s=>bU k.rules s 0⟩
theorem aFk:(Arr.rep 3 0:Arr 3 Int)=qF []:=aJp rfl
theorem at_D {l:List Int}{i:Int}(h:0≤i∧i<l.length):at' l i=some ((at' l i).getD 0):=by
  obtain ⟨x,hx⟩:=vM h
  rw [hx]; rfl
theorem aRo (k : fZ) (hp : k.phases.length ≤ 9223372036854775807) : ∀ (n : Nat) (c : Cond), dN c ≤ n → Gt c → (∀ s ∈ kW c, 0 ≤ bU k.tracks s 0 ∧ bU k.tracks s 0 < k.dens.length) → Fat n k c = some (mkN (mkrM k) c)
  | 0, c, h, _, _ => by have := mW c; omega
  | n + 1, c, h, g, ht => by
    have hl := g.kids
    have gk := g.gk
    have gs := g.self
    have nm : ∀ s ∈ nm1 c, 0 ≤ bU k.tracks s 0 ∧ bU k.tracks s 0 < k.dens.length := fun s hs => ht s (by rw [aAc, List.mem_append]; exact Or.inl hs)
    have e1 : Fa8 (Fat n) k c.Kids = some (c.Kids.map (mkN (mkrM k))) := by
      unfold Fa8 Ffw
      rw [zU]
      refine (congrArg (fun o => gG o fun g => some g) (aH (fun (i : Nat) => ((c.Kids.take i).map (mkN (mkrM k)), (i : Int))) c.Kids (some (c.Kids.map (mkN (mkrM k)))) (by omega) ?_ ?_)).trans (zQ _ _)
      · intro kk i x hx hi
        obtain ⟨k1, k2, k3⟩ := jJ g.ok hx
        have hm := List.mem_of_getElem? hx
        simp only [zU]
        rw [xP hi, yM, wG hx, zQ, aRo k hp n x (by omega) (g.kid hm) (fun s hs => ht s (aQj hm hs)), zQ, ap16 (by simp; omega), zQ, eQ hi (by omega), pR hx, List.map_append]
        rfl
      · intro kk
        simp only [zU]
        rw [xQ, yN, List.take_length]
    show Fco (Fat n) k c = _
    unfold Fco
    show gG (Fa8 (Fat n) k c.Kids) _ = _
    rw [e1, zQ, aOj]
    have at0 : ∀ (l : List Nd) (x : Nd), l = [x] → at' l 0 = some x := fun l x h => by rw [h]; rfl
    rcases kinds gs.k1 with e | e | e | e | e | e | e | e | e | e | e | e | e | e | e <;> rw [e] <;> simp only [zU, zQ, Int.reduceEq, decide_true, decide_false, yM, yN, mkK, if_true, if_false, or_true, true_or, or_self]
    · rfl
    · have a := nm c.Name (by unfold nm1; simp [e])
      have b := nm c.Other (by unfold nm1; simp [e])
      rw [at_D a, at_D b]
      rfl
    · rfl
    · rw [(aAl k.phases c.Name hp).1]; rfl
    · rfl
    · obtain ⟨x, hx⟩ := aB (gk.o (by omega))
      rw [hx]; rfl
    · obtain ⟨x, hx⟩ := aB (gk.o (by omega))
      rw [hx, aFk]; rfl
    · obtain ⟨x, hx⟩ := aB (gk.o (by omega))
      rw [hx, aFk]; rfl
    · obtain ⟨x, hx⟩ := aB (gk.o (by omega))
      rw [hx, aFk]; rfl
    · obtain ⟨x, y, hx⟩ := aMm (gk.t e)
      rw [hx]; rfl
    · obtain ⟨x, hx⟩ := aB (gk.o (by omega))
      rw [hx]; rfl
theorem maker_ok (k:fZ)(hp:k.phases.length≤9223372036854775807){c:Cond}(g:Gt c)(ht: ∀s ∈ kW c,0≤bU k.tracks s 0∧bU k.tracks s 0<k.dens.length):Fbt k c=some (mkN (mkrM k) c):=
  aRo k hp FU c (Nat.le_of_lt (qG (by have:=g.d; omega))) g ht
end Go.Lf
namespace Go.Lf
open Go.OB
def jR:List Str→Nat→List (Str×Int)
  | [],_=>[]
  | s :: l,i=>(s,(i:Int)) :: jR l (i+1)
theorem aBv (s:Str): ∀(l:List Str) (i:Nat),jR (l++ [s]) i=jR l i++ [(s,((i+l.length:Nat):Int))]
  | [],i=>rfl
  | x :: l,i=>by
    rw [List.cons_append,jR,jR,aBv s l (i+1),List.cons_append,List.length_cons,show i+1+l.length=i+(l.length+1) by omega]
theorem aFs (s:Str): ∀(l:List Str) (i:Nat),(jR l i).any (fun p=>decide (p.1=s))=l.any (fun x=>decide (x=s))
  | [],_=>rfl
  | x :: l,i=>by rw [jR,List.any_cons,List.any_cons,aFs s l (i+1)]
theorem aBj (k:Str)(v:Int)(l:List (Str×Int))(s:Str):bU ((k,v) :: l) s 0=if k=s then v else bU l s 0:=by
  unfold bU
  rw [List.find?_cons]
  by_cases h:k=s
  · simp [h]
  · simp [h]
theorem aGd (s : Str) : ∀ (l : List Str) (i : Nat), s ∈ l → ∃ j : Nat, bU (jR l i) s 0 = ((i + j : Nat) : Int) ∧ l[j]? = some s
  | [], _, h => by simp at h
  | x :: l, i, h => by
    rw [jR, aBj]
    by_cases c : x = s
    · subst c; exact ⟨0, by rw [if_pos rfl]; rfl, rfl⟩
    · obtain ⟨j, h1, h2⟩ := aGd s l (i + 1) ((List.mem_cons.1 h).resolve_left (Ne.symm c))
      exact ⟨j + 1, by rw [if_neg c, h1]; congr 1; omega, by simpa using h2⟩
def trI (l:List fG)(s:Str):Int:=bU (jR (l.map fG.Name) 0) s 0
def rU (l:List fG):List Int:=l.map fun t=>t.Series.Den
theorem trI_ok {l:List fG}{s:Str}(h:s ∈ l.map fG.Name):0≤trI l s∧trI l s<l.length:=by
  obtain ⟨j,h1,h2⟩:=aGd s (l.map fG.Name) 0 h
  have:=(List.getElem?_eq_some_iff.1 h2).1
  rw [List.length_map] at this
  unfold trI; rw [h1]; omega
theorem newL1_ok (l : List fG) (h : aBs l = 0) : Fdd l (l.length : Int) (0, ([] : List (Str × Int)), []) = some (jR (l.map fG.Name) 0, rU l) := by
  have hl := (aNj h).1
  have pw := names_pw h
  unfold Fdd
  refine aH (fun (i : Nat) => ((i : Int), jR ((l.take i).map fG.Name) 0, rU (l.take i))) l (some (jR (l.map fG.Name) 0, rU l)) (by omega) ?_ ?_
  · intro k i x hx hi
    have na : (jR ((l.take i).map fG.Name) 0).any (fun p => decide (p.1 = x.Name)) = false := by
      rw [aFs, List.any_eq_false]
      intro y hy
      obtain ⟨z, hz, rfl⟩ := List.mem_map.1 hy
      obtain ⟨j, hj⟩ := List.getElem?_of_mem hz
      rw [List.getElem?_take] at hj
      split at hj
      · rename_i c
        simpa using aKd h hj hx c
      · cases hj
    simp only [zU]
    rw [xP hi, yM, wG hx, zQ, uF _ _ na, ap8 (by unfold rU; simp; omega), zQ, eQ hi (by omega), pR hx, List.map_append, List.map_singleton, aBv]
    unfold rU
    rw [List.map_append, List.length_map, List.length_take, Nat.zero_add, Nat.min_eq_left (by omega)]
    rfl
  · intro k
    simp only [zU]
    rw [xQ, yN, List.take_length]
def MkR (r:Rules)(l:List fG)(i:Nat):Mk:=⟨trI l,fun i=>(at' (rU l) i).getD 0,fun s=>aFl r.Phases s,fun s=>bU (jR ((r.Rules.take i).map dE.Name) 0) s 0⟩
def rlN (r:Rules)(l:List fG)(i:Nat)(x:dE):Nd:=mkN (MkR r l i) x.When
def mvN (r:Rules)(l:List fG)(m:bK):fJ:=fJ.mk (aFl r.Phases m.From) (aFl r.Phases m.To) (mkN (MkR r l 0) m.When)
def bV (r:Rules)(l:List fG):fD:=
  fD.mk r.Phases (l.length:Int) (r.Moves.map (mvN r l)) (r.Rules.mapIdx (rlN r l)) ((List.replicate r.Phases.length false).set 0 true)
structure GB (r:Rules)(l:List fG):Prop where
  ok:okR r
  c:chk r=some 0
  t:aBs l=0
  n: ∀s ∈ nU r,s ∈ l.map fG.Name
theorem GB.g {r:Rules}{l:List fG}(h:GB r l):Gr' r:=aFy h.ok h.c
theorem nm_mv {r:Rules}{m:bK}(hm:m ∈ r.Moves){s:Str}(hs:s ∈ kW m.When):s ∈ nU r:=by
  unfold nU
  rw [List.mem_append,List.mem_flatMap,List.mem_flatMap]
  exact Or.inl ⟨m,hm,hs⟩
theorem nm_rl {r:Rules}{x:dE}(hm:x ∈ r.Rules){s:Str}(hs:s ∈ kW x.When):s ∈ nU r:=by
  unfold nU
  rw [List.mem_append,List.mem_flatMap,List.mem_flatMap]
  exact Or.inr ⟨x,hm,hs⟩
theorem aMw {r:Rules}{l:List fG}(h:GB r l)(i:Nat){c:Cond}(g:Gt c)(hn: ∀s ∈ kW c,s ∈ nU r):Fbt (fZ.mk (jR (l.map fG.Name) 0) (rU l) r.Phases (jR ((r.Rules.take i).map dE.Name) 0)) c=some (mkN (MkR r l i) c):=by
  have hp:=h.g.p
  refine maker_ok _ (by show r.Phases.length≤_; omega) g fun s hs=>?_
  have:=trI_ok (h.n s (hn s hs))
  show 0≤trI l s∧trI l s<(rU l).length
  unfold rU
  rw [List.length_map]; exact this
theorem newL2_ok {r : Rules} {l : List fG} (h : GB r l) : Fdm r (jR (l.map fG.Name) 0) (rU l) (r.Moves.length : Int) (0, []) = some (r.Moves.map (mvN r l)) := by
  have g := h.g
  have hm := g.m
  have hp := g.p
  unfold Fdm
  refine aH (fun (i : Nat) => ((i : Int), (r.Moves.take i).map (mvN r l))) r.Moves (some (r.Moves.map (mvN r l))) (by omega) ?_ ?_
  · intro k i x hx hi
    have mx := List.mem_of_getElem? hx
    have e := aMw h 0 (g.mg x mx).1 fun s hs => nm_mv mx hs
    rw [List.take_zero] at e
    change Fbt (fZ.mk (jR (l.map fG.Name) 0) (rU l) r.Phases []) x.When = _ at e
    have a32 : app' 32 ((r.Moves.take i).map (mvN r l)) [mvN r l x] = some ((r.Moves.take i).map (mvN r l) ++ [mvN r l x]) := by
      unfold app'
      rw [if_pos ⟨by rw [maxLen_eq]; simp; omega, by simp; omega⟩]
    simp only [zU]
    rw [xP hi, yM, wG hx, zQ, (aAl r.Phases x.From (by omega)).1, (aAl r.Phases x.To (by omega)).1, zQ, zQ, e, zQ]
    show gG (app' 32 ((r.Moves.take i).map (mvN r l)) [mvN r l x]) _ = _
    rw [a32, zQ, eQ hi (by omega), pR hx, List.map_append]
    rfl
  · intro k
    simp only [zU]
    rw [xQ, yN, List.take_length]
theorem aKo {α β:Type}(f:Nat→α→β)(l:List α)(x:α):(l++ [x]).mapIdx f=l.mapIdx f++ [f l.length x]:=by
  rw [List.mapIdx_append]; simp
theorem newL3_ok {r : Rules} {l : List fG} (h : GB r l) : Fdf r (jR (l.map fG.Name) 0) (rU l) (r.Rules.length : Int) (0, ([] : List (Str × Int)), []) = some (r.Rules.mapIdx (rlN r l)) := by
  have g := h.g
  have hl := g.l
  have hr := aFj h.c
  unfold Fdf
  refine aH (fun (i : Nat) => ((i : Int), jR ((r.Rules.take i).map dE.Name) 0, (r.Rules.take i).mapIdx (rlN r l))) r.Rules (some (r.Rules.mapIdx (rlN r l))) (by omega) ?_ ?_
  · intro k i x hx hi
    have mx := List.mem_of_getElem? hx
    have e := aMw h i (g.lg x mx).1 fun s hs => nm_rl mx hs
    have na : (jR ((r.Rules.take i).map dE.Name) 0).any (fun p => decide (p.1 = x.Name)) = false := by
      rw [aFs, List.any_map]
      exact (hr i x hx).1
    have hlen : (r.Rules.take i).length = i := by rw [List.length_take]; omega
    simp only [zU]
    rw [xP hi, yM, wG hx, zQ, e, zQ, ap16 (by simp; omega), zQ, uF _ _ na, eQ hi (by omega), pR hx, aKo, List.map_append, List.map_singleton, aBv, hlen, List.length_map, hlen, Nat.zero_add]
    rfl
  · intro k
    simp only [zU]
    rw [xQ, yN, List.take_length]
theorem cloneS_eq (l:List Str)(h:l.length≤1000000):Fcr l=some l:=by
  unfold Fcr
  have e:app' 16 ([]:List Str) l=some l:=by
    unfold app'
    rw [if_pos ⟨by rw [maxLen_eq]; simp; omega,by simp; omega⟩,List.nil_append]
  rw [e]
  cases l with
  | nil=>rfl
  | cons a l=>rfl
theorem aLm {r:Rules}{l:List fG}(h:GB r l):Fbz r l=some (bV r l):=by
  have hp:=h.g.p
  unfold Fbz
  simp only [zU]
  rw [newL1_ok l h.t,zQ]
  dsimp only
  rw [cloneS_eq _ (by omega),zQ]
  have mk:make' 1 (r.Phases.length:Int) false=some (List.replicate r.Phases.length false):=by
    unfold make'
    rw [if_pos ⟨by omega,by omega,by omega⟩,Int.toNat_natCast]
  rw [mk,zQ,newL2_ok h,newL3_ok h]
  simp only [zQ]
  have e:(gQ (decide (0<(r.Phases.length:Int))) (gG (at' (List.replicate r.Phases.length false) 0) fun x632=>gG (set' (List.replicate r.Phases.length false) 0 true) fun x643=>some x643) (some (List.replicate r.Phases.length false)))=some ((List.replicate r.Phases.length false).set 0 true):=by
    cases hP:r.Phases.length with
    | zero=>rfl
    | succ n=>
      rw [decide_eq_true (by omega),yM]
      obtain ⟨x,hx⟩:=vM (l:=List.replicate (n+1) false) (i:=0) ⟨by omega,by simp⟩
      rw [hx,zQ,aPx ⟨by omega,by simp⟩]
      rfl
  rw [e,zQ]
  rfl
end Go.Lf
namespace Go.Lf
open Go.OB
theorem mv_ok {r : Rules} (h : chk r = some 0) {m : bK} (hm : m ∈ r.Moves) : m.From ∈ r.Phases ∧ m.To ∈ r.Phases ∧ aV pMv m.When = false := by
  unfold chk at h
  split at h
  · exact absurd (Option.some.inj h) (by decide)
  · obtain ⟨h1, h2⟩ := aC (phE r.Phases) _ _ _ h
    obtain ⟨h3, h4⟩ := aC (fun _ => mvE r) _ _ _ h1
    obtain ⟨i, hi⟩ := List.getElem?_of_mem hm
    have := h4 i m hi
    unfold mvE at this
    split at this
    · rename_i c
      split at this
      · split at this
        · exact absurd this (by decide)
        · rename_i d
          have a : ∀ {s : Str}, (r.Phases.any fun y => decide (s = y)) = true → s ∈ r.Phases := by
            intro s hs
            rw [List.any_eq_true] at hs
            obtain ⟨y, h1, h2⟩ := hs
            rw [of_decide_eq_true h2]; exact h1
          exact ⟨a c.1, a c.2, by simpa using d⟩
      · rename_i d; exact absurd this d
    · exact absurd this (by decide)
theorem idx_ok {r:Rules}{l:List fG}(h:GB r l){s:Str}(hs:s ∈ r.Phases):0≤aFl r.Phases s∧aFl r.Phases s<r.Phases.length:=(aAl r.Phases s (by have:=h.g.p; omega)).2 hs
theorem nmd_mem {l:List dE}{s:Str}(h:nmd l s=true):s ∈ l.map dE.Name:=by
  unfold nmd at h
  rw [List.any_eq_true] at h
  obtain ⟨y,h1,h2⟩:=h
  rw [← of_decide_eq_true h2]
  exact List.mem_map_of_mem h1
theorem aLf {r : Rules} (i : Nat) {c : Cond} (h : pRl r i c = false) : (c.Kind = 6 → c.Name ∈ r.Phases) ∧ (c.Kind = 7 → c.Name ∈ (r.Rules.take i).map dE.Name) := by
  unfold pRl at h
  rw [Bool.or_eq_false_iff] at h
  refine ⟨fun e => ?_, fun e => ?_⟩
  · have h1 := h.1
    rw [e, decide_eq_true rfl, Bool.true_and, Bool.not_eq_false'] at h1
    rw [List.any_eq_true] at h1
    obtain ⟨y, h2, h3⟩ := h1
    rw [of_decide_eq_true h3]; exact h2
  · have h1 := h.2
    rw [e, decide_eq_true rfl, Bool.true_and, Bool.not_eq_false'] at h1
    exact nmd_mem h1
theorem aQy {r : Rules} {l : List fG} (h : GB r l) : WfW (bV r l) l.length r.Phases.length := by
  have g := h.g
  have hp := g.p
  have hr := aFj h.c
  have tr : ∀ s ∈ nU r, 0 ≤ trI l s ∧ trI l s < l.length := fun s hs => trI_ok (h.n s hs)
  refine ⟨rfl, by show ((List.replicate _ _).set _ _).length = _; simp, by omega, rfl, by show (r.Moves.map _).length ≤ _; have := g.m; simp; omega, by show (r.Rules.mapIdx _).length ≤ _; have := g.l; simp; omega, fun x hx => ?_, fun i k hk => ?_⟩
  · obtain ⟨m, hm, rfl⟩ := List.mem_map.1 hx
    obtain ⟨m1, m2, m3⟩ := mv_ok h.c hm
    have gm := (g.mg m hm).1
    have d := aOw (MkR r l 0) m.When
    have gd := gm.d
    refine ⟨idx_ok h m2, ?_, by show dpN (mkN (MkR r l 0) m.When) ≤ _; omega⟩
    refine aOo (MkR r l 0) pMv (fun c hc => ?_) (dN m.When) m.When (Nat.le_refl _) gm (fun s hs => tr s (nm_mv hm hs)) m3
    unfold pMv at hc
    constructor
    · intro e; rw [e] at hc; simp at hc
    · intro e; rw [e] at hc; simp at hc
  · change (r.Rules.mapIdx (rlN r l))[i]? = some k at hk
    rw [List.getElem?_mapIdx, Option.map_eq_some_iff] at hk
    obtain ⟨x, hx, rfl⟩ := hk
    have mx := List.mem_of_getElem? hx
    have gx := (g.lg x mx).1
    have d := aOw (MkR r l i) x.When
    have gd := gx.d
    refine ⟨?_, by show dpN (mkN (MkR r l i) x.When) ≤ _; omega⟩
    refine aOo (MkR r l i) (pRl r i) (fun c hc => ?_) (dN x.When) x.When (Nat.le_refl _) gx (fun s hs => tr s (nm_rl mx hs)) (hr i x hx).2
    obtain ⟨q1, q2⟩ := aLf i hc
    refine ⟨fun e => idx_ok h (q1 e), fun e => ?_⟩
    obtain ⟨j, h1, h2⟩ := aGd c.Name ((r.Rules.take i).map dE.Name) 0 (q2 e)
    have := (List.getElem?_eq_some_iff.1 h2).1
    rw [List.length_map, List.length_take] at this
    show 0 ≤ bU (jR ((r.Rules.take i).map dE.Name) 0) c.Name 0 ∧ bU (jR ((r.Rules.take i).map dE.Name) 0) c.Name 0 < (i : Int)
    rw [h1]; omega
theorem aSt (s : Str) : ∀ (names : List Str) (ds : List Int) (i : Nat), s ∈ names.take ds.length → ∃ j : Nat, bU (jR (names.take ds.length) i) s 0 = ((i + j : Nat) : Int) ∧ ds[j]? = some (bU (names.zip ds) s 0)
  | [], ds, i, h => by simp at h
  | n :: names, [], i, h => by simp at h
  | n :: names, d :: ds, i, h => by
    rw [List.length_cons, List.take_succ_cons, jR, aBj, List.zip_cons_cons, aBj]
    by_cases c : n = s
    · exact ⟨0, by rw [if_pos c]; rfl, by rw [if_pos c]; rfl⟩
    · rw [List.length_cons, List.take_succ_cons] at h
      obtain ⟨j, h1, h2⟩ := aSt s names ds (i + 1) ((List.mem_cons.1 h).resolve_left (Ne.symm c))
      exact ⟨j + 1, by rw [if_neg c, h1]; congr 1; omega, by rw [if_neg c]; simpa using h2⟩
theorem aDw (r : Rules) : ∀ (n i : Nat), i ≤ n → n ≤ r.Rules.length → (dsN r n).take i = dsN r i
  | 0, i, h, _ => by obtain rfl : i = 0 := by omega
                     rfl
  | n + 1, i, h, hn => by
    by_cases c : i = n + 1
    · subst c; rw [List.take_of_length_le (by rw [jH r _ hn]; exact Nat.le_refl _)]
    · rw [dsN, List.getElem?_eq_getElem (by omega : n < r.Rules.length)]
      show (dsN r n ++ _).take i = _
      rw [List.take_append_of_le_length (by rw [jH r n (by omega)]; omega)]
      exact aDw r n i (by omega) (by omega)
theorem aSr {r:Rules}{i n:Nat}(hi:i≤n)(hn:n≤r.Rules.length){s:Str}(hs:s ∈ (r.Rules.take i).map dE.Name)(l:List fG):(at' (dsN r n) ((MkR r l i).rl s)).getD (-1)=look r (dsN r i) s:=by
  have hd:=jH r i (by omega)
  have e:(r.Rules.map dE.Name).take (dsN r i).length=(r.Rules.take i).map dE.Name:=by rw [hd,List.map_take]
  obtain ⟨j,h1,h2⟩:=aSt s (r.Rules.map dE.Name) (dsN r i) 0 (by rw [e]; exact hs)
  rw [e] at h1
  have hj:=(List.getElem?_eq_some_iff.1 h2).1
  have hx:(dsN r n)[j]? =(dsN r i)[j]? :=by rw [← aDw r n i hi hn,List.getElem?_take,if_pos (by omega)]
  show (at' _ (bU (jR ((r.Rules.take i).map dE.Name) 0) s 0)).getD (-1)=_
  rw [h1,Nat.zero_add,rC,hx,h2]; rfl
theorem aSl {r:Rules}{i:Nat}{B:Int}(hB:0≤B)(h: ∀d ∈ dsN r i,d≤B)(s:Str):look r (dsN r i) s≤B:=by
  unfold look bU
  cases e:((r.Rules.map dE.Name).zip (dsN r i)).find? fun p=>decide (p.1=s) with
  | none=>exact hB
  | some p=>exact h p.2 (List.of_mem_zip (List.mem_of_find?_eq_some e)).2
theorem aKt {D:List Int}{M:Mk}{f:Str→Int}{B:Int}(hB:0≤B): ∀l:List Cond,(∀x ∈ l,ndp D (mkN M x)=dpC f x∧dpC f x≤B+4096 * dN x)→sN D (l.map (mkN M))=mV f l∧mV f l≤B+4096 * dNs l
  | [],_=>by rw [mV,dNs]; exact ⟨rfl,by omega⟩
  | a :: l,h=>by
    obtain ⟨h1,h2⟩:=h a List.mem_cons_self
    obtain ⟨h3,h4⟩:=aKt hB l fun x hx=>h x (List.mem_cons_of_mem _ hx)
    rw [List.map_cons,sN,mV,dNs,h1,h3]
    refine ⟨rfl,?_⟩
    split
    · omega
    · split<;>omega
theorem aPk {r : Rules} {l : List fG} {i : Nat} {D : List Int} (hD : ∀ r, 0 ≤ (at' D r).getD (-1) → 1 ≤ (at' D r).getD (-1)) (hlook : ∀ s ∈ (r.Rules.take i).map dE.Name, (at' D ((MkR r l i).rl s)).getD (-1) = look r (dsN r i) s)
    {B : Int} (hB : 0 ≤ B ∧ B ≤ 100000000) (hf : ∀ s, look r (dsN r i) s ≤ B) : ∀ (m : Nat) (c : Cond), dN c ≤ m → Gt c → aV (pRl r i) c = false → ndp D (mkN (MkR r l i) c) = dpC (look r (dsN r i)) c ∧ dpC (look r (dsN r i)) c ≤ B + 4096 * dN c
  | 0, c, h, _, _ => by have := mW c; omega
  | m + 1, c, h, g, ha => by
    have hk : ∀ x ∈ c.Kids, ndp D (mkN (MkR r l i) x) = dpC (look r (dsN r i)) x ∧ dpC (look r (dsN r i)) x ≤ B + 4096 * dN x := fun x hx => by
      obtain ⟨j, hj⟩ := List.getElem?_of_mem hx
      exact aPk hD hlook hB hf m x (by have := (jJ g.ok hj).2.1; omega) (g.kid hx) (aSd hx ha)
    obtain ⟨k1, k2⟩ := aKt hB.1 c.Kids hk
    have gk := g.gk
    have gs := g.self
    have gfr := gs.fr
    have gd := g.d
    have e := aLv c
    have hn := hf c.Name
    have hp := aAu hD
    obtain ⟨q1, q2⟩ := aLf i (aLa ha)
    rw [aOj, aPe]
    generalize dpC (look r (dsN r i)) = dp at hk
    generalize hmm : mV (look r (dsN r i)) c.Kids = mm at k1 k2
    unfold dpK
    have one : ∀ x, c.Kids = [x] → sN D [mkN (MkR r l i) x] = if ndp D (mkN (MkR r l i) x) < 0 then -1 else ndp D (mkN (MkR r l i) x) := fun x _ => by
      rw [sN, sN]
      split
      · rfl
      · rw [if_neg (by omega)]; omega
    rcases kinds gs.k1 with z | z | z | z | z | z | z | z | z | z | z | z | z | z | z <;> rw [z] <;> simp only [mkK, Int.reduceEq, if_true, if_false, or_true, true_or, or_self]
    · rw [List.length_eq_zero_iff.1 (gk.z (by omega))] at hmm
      rw [mV] at hmm; subst hmm
      rw [ndp]; exact ⟨rfl, by simp; omega⟩
    · rw [List.length_eq_zero_iff.1 (gk.z (by omega))] at hmm
      rw [mV] at hmm; subst hmm
      rw [ndp]; exact ⟨rfl, by simp; omega⟩
    · rw [List.length_eq_zero_iff.1 (gk.z (by omega))] at hmm
      rw [mV] at hmm; subst hmm
      rw [ndp]; exact ⟨rfl, by simp; omega⟩
    · rw [List.length_eq_zero_iff.1 (gk.z (by omega))] at hmm
      rw [mV] at hmm; subst hmm
      rw [ndp]; exact ⟨rfl, by simp; omega⟩
    · have := gk.fr (by omega)
      rw [ndp, if_neg (by omega)]; exact ⟨rfl, by omega⟩
    · rw [ndp]; exact ⟨rfl, by omega⟩
    · rw [ndp]; exact ⟨hlook _ (q2 z), by omega⟩
    · obtain ⟨x, hx⟩ := aB (gk.o (by omega))
      have o := one x hx
      rw [hx, List.map_singleton] at k1
      rw [hx, List.map_singleton, List.getD_cons_zero, ndp, ← o, k1]
      refine ⟨?_, by split <;> omega⟩
      split
      · rw [k1] at o; split at o <;> omega
      · rfl
    · have hne : 1 ≤ c.Kids.length := by have := gk.g (by omega); omega
      obtain ⟨x, hx⟩ : ∃ x, c.Kids[0]? = some x := ⟨_, List.getElem?_eq_getElem (by omega)⟩
      have hm : mkN (MkR r l i) x ∈ c.Kids.map (mkN (MkR r l i)) := List.mem_map_of_mem (List.mem_of_getElem? hx)
      have pos : 0 ≤ mm → 1 ≤ mm := fun h0 => by
        rw [← k1] at h0 ⊢
        have a := aAn hm h0
        have := hp _ a.1
        omega
      rw [ndp, k1]
      refine ⟨?_, by split <;> omega⟩
      split
      · rfl
      · have := pos (by omega); omega
    · have hne : 1 ≤ c.Kids.length := by have := gk.g (by omega); omega
      obtain ⟨x, hx⟩ : ∃ x, c.Kids[0]? = some x := ⟨_, List.getElem?_eq_getElem (by omega)⟩
      have hm : mkN (MkR r l i) x ∈ c.Kids.map (mkN (MkR r l i)) := List.mem_map_of_mem (List.mem_of_getElem? hx)
      have pos : 0 ≤ mm → 1 ≤ mm := fun h0 => by
        rw [← k1] at h0 ⊢
        have a := aAn hm h0
        have := hp _ a.1
        omega
      rw [ndp, k1]
      refine ⟨?_, by split <;> omega⟩
      split
      · rfl
      · have := pos (by omega); omega
    · obtain ⟨x, hx⟩ := aB (gk.o (by omega))
      have o := one x hx
      have := gk.fr (by omega)
      rw [hx, List.map_singleton] at k1
      rw [hx, List.map_singleton, List.getD_cons_zero, ndp]
      rw [k1] at o
      by_cases c0 : ndp D (mkN (MkR r l i) x) < 0
      · rw [if_pos c0] at o
        rw [if_pos (Or.inl c0), if_pos (by omega)]; exact ⟨rfl, by omega⟩
      · rw [if_neg c0] at o
        rw [if_neg (by omega), if_neg (by omega), wrap_i64 (n := mm + c.Frames) (by omega) (by omega), wrap_i64 (by omega) (by omega), o]; exact ⟨rfl, by omega⟩
    · obtain ⟨x, hx⟩ := aB (gk.o (by omega))
      have o := one x hx
      have := gk.fr (by omega)
      rw [hx, List.map_singleton] at k1
      rw [hx, List.map_singleton, List.getD_cons_zero, ndp]
      rw [k1] at o
      by_cases c0 : ndp D (mkN (MkR r l i) x) < 0
      · rw [if_pos c0] at o
        rw [if_pos (Or.inl c0), if_pos (by omega)]; exact ⟨rfl, by omega⟩
      · rw [if_neg c0] at o
        rw [if_neg (by omega), if_neg (by omega), wrap_i64 (n := mm + c.Frames) (by omega) (by omega), wrap_i64 (by omega) (by omega), o]; exact ⟨rfl, by omega⟩
    · obtain ⟨x, hx⟩ := aB (gk.o (by omega))
      have o := one x hx
      have := gk.fr (by omega)
      rw [hx, List.map_singleton] at k1
      rw [hx, List.map_singleton, List.getD_cons_zero, ndp]
      rw [k1] at o
      by_cases c0 : ndp D (mkN (MkR r l i) x) < 0
      · rw [if_pos c0] at o
        rw [if_pos (Or.inl c0), if_pos (by omega)]; exact ⟨rfl, by omega⟩
      · rw [if_neg c0] at o
        rw [if_neg (by omega), if_neg (by omega), wrap_i64 (n := mm + c.Frames) (by omega) (by omega), wrap_i64 (by omega) (by omega), o]; exact ⟨rfl, by omega⟩
    · rw [ndp]; exact ⟨rfl, by omega⟩
    · obtain ⟨x, hx⟩ := aB (gk.o (by omega))
      have o := one x hx
      rw [hx, List.map_singleton] at k1
      rw [hx, List.map_singleton, List.getD_cons_zero, ndp]
      rw [k1] at o
      by_cases c0 : ndp D (mkN (MkR r l i) x) < 0
      · rw [if_pos c0] at o
        rw [if_pos c0, if_pos (by omega)]; exact ⟨rfl, by omega⟩
      · rw [if_neg c0] at o
        rw [if_neg c0, if_neg (by omega), wrap_i64 (by omega) (by omega), o]; exact ⟨rfl, by omega⟩
theorem aIt {r : Rules} {l : List fG} (h : GB r l) : ∀ i, i ≤ r.Rules.length → (∀ s, 0 ≤ (at' (dsN r i) s).getD (-1) → 1 ≤ (at' (dsN r i) s).getD (-1)) ∧ ∀ d ∈ dsN r i, d ≤ 81920 * (i : Int)
  | 0, _ => ⟨fun s => by
      show 0 ≤ (at' ([] : List Int) s).getD (-1) → _
      unfold at'
      split <;> simp, fun d hd => by simp [dsN] at hd⟩
  | i + 1, hi => by
    obtain ⟨h1, h2⟩ := aIt h i (by omega)
    have hl := h.g.l
    have hx : r.Rules[i]? = some r.Rules[i] := List.getElem?_eq_getElem (by omega)
    have mx := List.mem_of_getElem? hx
    have gx := (h.g.lg _ mx).1
    have gd := gx.d
    have e : dsN r (i + 1) = dsN r i ++ [dpC (look r (dsN r i)) r.Rules[i].When] := by rw [dsN, hx]
    obtain ⟨q1, q2⟩ := aPk (l := l) h1 (fun s hs => aSr (Nat.le_refl i) (by omega) hs l) (B := 81920 * (i : Int)) ⟨by omega, by omega⟩ (aSl (by omega) h2) (dN r.Rules[i].When) r.Rules[i].When (Nat.le_refl _) gx (aFj h.c i _ hx).2
    have hp := aAu h1 (mkN (MkR r l i) r.Rules[i].When)
    rw [q1] at hp
    have hlen := jH r i (by omega)
    refine ⟨fun s => ?_, fun d hd => ?_⟩
    · rw [e]
      have g1 := h1 s
      unfold at' at g1 ⊢
      split
      · rename_i c
        rw [if_pos c] at g1
        rw [List.getElem?_append]
        split
        · exact g1
        · rw [hlen]
          cases hz : s.toNat - i with
          | zero => exact hp
          | succ n => simp
      · simp
    · rw [e] at hd
      rcases List.mem_append.1 hd with q | q
      · have := h2 d q; omega
      · obtain rfl := List.mem_singleton.1 q; omega
theorem newW_dep {r:Rules}{l:List fG}(h:GB r l)(i:Nat)(k:Nd)(hk:(bV r l).rules[i]? =some k):ndp (dsN r r.Rules.length) k=(at' (dsN r r.Rules.length) (i:Int)).getD (-1):=by
  change (r.Rules.mapIdx (rlN r l))[i]? =some k at hk
  rw [List.getElem?_mapIdx,Option.map_eq_some_iff] at hk
  obtain ⟨x,hx,rfl⟩:=hk
  have hi:=(List.getElem?_eq_some_iff.1 hx).1
  have hl:=h.g.l
  have mx:=List.mem_of_getElem? hx
  have gx:=(h.g.lg _ mx).1
  obtain ⟨h1,_⟩:=aIt h r.Rules.length (Nat.le_refl _)
  obtain ⟨_,h2⟩:=aIt h i (by omega)
  obtain ⟨q1,_⟩:=aPk (l:=l) h1 (fun s hs=>aSr (Nat.le_of_lt hi) (Nat.le_refl _) hs l) (B:=81920 * (i:Int)) ⟨by omega,by omega⟩ (aSl (by omega) h2) (dN x.When) x.When (Nat.le_refl _) gx (aFj h.c i _ hx).2
  show ndp _ (mkN (MkR r l i) x.When)=_
  rw [q1]
  have e:(dsN r r.Rules.length)[i]? =(dsN r (i+1))[i]? :=by rw [← aDw r r.Rules.length (i+1) hi (Nat.le_refl _),List.getElem?_take,if_pos (by omega)]
  rw [rC,e,dsN,hx]
  show _=((dsN r i++ [_])[i]?).getD (-1)
  rw [List.getElem?_append_right (by rw [jH r i (by omega)]; omega),jH r i (by omega)]
  simp
end Go.Lf
namespace Go.Lf
open Go.OB
theorem aJq (l : List fG) (s : Str) (hl : l.length ≤ 9223372036854775807) : Fcl l s = some (l.any fun t => decide (t.Name = s)) := by
  obtain ⟨n, h1, h2⟩ := aJw (fun (_ : Nat) (y : fG) => decide (y.Name = s)) l 0
  have e : Fcu l s = some n := by
    unfold Fcu
    simp only [zU, xY]
    unfold Fed
    rw [← h1]
    refine xU l _ _ hl ?_ ?_
    · intro kk i x hx hi
      unfold Fdy
      simp only [zU, zQ]
      rw [xP hi, yM, wG hx, zQ, eQ hi hl]
      cases decide (x.Name = s) <;> rfl
    · intro kk; simp only [zU]; rw [xQ]; rfl
  have a : ∀ (l : List fG) (i : Nat), kV (fun _ y => decide (y.Name = s)) l i = l.any fun t => decide (t.Name = s) := by
    intro l
    induction l with
    | nil => intro i; rfl
    | cons x l ih => intro i; rw [kV, ih, List.any_cons]
  unfold Fcl
  rw [e]
  simp only [zU, zQ, h2, a]
def aAx (r:Rules)(l:List fG):Int:=
  if (chk r).getD 0≠0 then (chk r).getD 0 else if aBs l≠0 then aBs l else if (aKk r).all (fun s=>l.any fun t=>decide (t.Name=s))=true then 0 else 4
theorem aIq {r:Rules}(g:Gr' r):Fbe r=some (aKk r):=by
  rw [aKe g,aLd]; rfl
theorem aJy {r : Rules} {l : List fG} (ok : okR r) (hl : okL pJ l) : Fcb r l = some (aAx r l) := by
  obtain ⟨e, he⟩ := aDu r
  unfold Fcb aAx
  rw [aEp r ok, he, zQ]
  simp only [zU, Option.getD_some, wC]
  by_cases z : e = 0
  · subst z
    have g := aFy ok he
    rw [if_neg (by simp), if_neg (by simp), aEn l hl, aSg, zQ]
    by_cases y : aBs l = 0
    · rw [if_neg (by simpa using y), if_neg (by simpa using y), xY, aIq g, zQ]
      have hn := trkN_len g
      unfold Fec
      rw [xU (aKk r) (fun _ s => if (l.any fun t => decide (t.Name = s)) = true then none else some (some 4)) (some 0) (by omega) ?_ ?_]
      · have key : ∀ (ls : List Str) (i : Nat), dX (fun _ s => if (l.any fun t => decide (t.Name = s)) = true then none else some (some (4 : Int))) (some 0) ls i = some (if ls.all (fun s => l.any fun t => decide (t.Name = s)) = true then 0 else 4) := by
          intro ls
          induction ls with
          | nil => intro i; rfl
          | cons s ls ih =>
            intro i
            rw [dX, List.all_cons]
            cases (l.any fun t => decide (t.Name = s))
            · rfl
            · simpa using ih (i + 1)
        rw [key]
      · intro kk i x hx hi
        simp only [zU]
        rw [xP hi, yM, wG hx, zQ, aJq l x hl.1, zQ, eQ hi (by omega)]
        cases (l.any fun t => decide (t.Name = x)) <;> rfl
      · intro kk
        simp only [zU]
        rw [xQ, yN]
    · rw [if_pos y, if_pos y]
  · rw [if_pos z, if_pos z]
theorem aRa {r : Rules} {l : List fG} (ok : okR r) (h : aAx r l = 0) : GB r l := by
  obtain ⟨e, he⟩ := aDu r
  unfold aAx at h
  rw [he] at h
  simp only [Option.getD_some] at h
  by_cases z : e = 0
  · subst z
    rw [if_neg (by simp)] at h
    by_cases y : aBs l = 0
    · rw [if_neg (by simpa using y)] at h
      split at h
      · rename_i a
        refine ⟨ok, he, y, fun s hs => ?_⟩
        rw [List.all_eq_true] at a
        have m : s ∈ aKk r := by unfold aKk; rw [aAe]; exact Or.inr hs
        have := a s m
        rw [List.any_eq_true] at this
        obtain ⟨t, h1, h2⟩ := this
        rw [← of_decide_eq_true h2]
        exact List.mem_map_of_mem h1
      · exact absurd h (by decide)
    · rw [if_pos y] at h; exact absurd h y
  · rw [if_pos z] at h; exact absurd h z
def vN (a b:Int):Int:=if a<0∨b<a∨4194304≤b then 9 else if 20000<b - a+1 then 3 else 0
theorem aRh {a b : Int} (h : vN a b = 0) : 0 ≤ a ∧ a ≤ b ∧ b ≤ 4194303 ∧ b - a + 1 ≤ 20000 := by
  unfold vN at h
  split at h
  · exact absurd h (by decide)
  · split at h
    · exact absurd h (by decide)
    · omega
def evE (r:Rules)(l:List fG)(a b:Int):Int:=if aAx r l≠0 then aAx r l else vN a b
def phL:List Bool→List Str→List Str
  | true :: bs,s :: ss=>s :: phL bs ss
  | false :: bs,_ :: ss=>phL bs ss
  | _,_=>[]
theorem aEo (b:Bool)(s:Str): ∀(bs:List Bool) (ss:List Str),bs.length=ss.length→phL (bs++ [b]) (ss++ [s])=phL bs ss++if b=true then [s] else []
  | [],[],_=>by cases b<;>rfl
  | [],_ :: _,h=>by simp at h
  | _ :: _,[],h=>by simp at h
  | true :: bs,x :: ss,h=>by
    rw [List.cons_append,List.cons_append,phL,phL,aEo b s bs ss (by simpa using h),List.cons_append]
  | false :: bs,x :: ss,h=>by
    rw [List.cons_append,List.cons_append,phL,phL,aEo b s bs ss (by simpa using h)]
theorem aJc: ∀(bs:List Bool) (ss:List Str),(phL bs ss).length≤ss.length
  | [],ss=>by simp [phL]
  | b :: bs,[]=>by cases b<;>simp [phL]
  | true :: bs,x :: ss=>by rw [phL,List.length_cons,List.length_cons]; have:=aJc bs ss; omega
  | false :: bs,x :: ss=>by rw [phL,List.length_cons]; have:=aJc bs ss; omega
theorem Phase_eq {w : fD} {T P : Nat} (h : WfW w T P) : Fa7 w = some (phL w.possible w.phases) := by
  have hb := h.pb
  have h1 := h.po
  have h2 := h.ph
  unfold Fa7 Ffb
  rw [zU]
  refine (congrArg (fun o => gG o fun g => some g) (aH (fun (i : Nat) => (phL (w.possible.take i) (w.phases.take i), (i : Int))) w.possible (some (phL w.possible w.phases)) (by omega) ?_ ?_)).trans (zQ _ _)
  · intro k i x hx hi
    have hi2 : i < w.phases.length := by omega
    have hs : w.phases[i]? = some w.phases[i] := List.getElem?_eq_getElem hi2
    have hl := aJc (w.possible.take i) (w.phases.take i)
    have ht : (w.phases.take i).length ≤ w.phases.length := by rw [List.length_take]; omega
    simp only [zU]
    rw [xP hi, yM, wG hx, wG hs, eQ hi (by omega), pR hx, pR hs, aEo _ _ _ _ (by simp; omega)]
    simp only [zQ]
    cases x
    · simp [gQ, gG]
    · rw [yM, ap16 (by omega), zQ]; rfl
  · intro k
    simp only [zU]
    rw [xQ, yN, List.take_length, List.take_of_length_le (by omega)]
end Go.Lf
namespace Go.Lf
open Go.OB
def tel (l:List fG)(a:Int)(k:Nat):List fV:=l.map (inT (a+(k:Int)))
theorem aIr (l:List fG)(a:Int)(k:Nat):(tel l a k).length=l.length:=by unfold tel; rw [List.length_map]
def spn (a b:Int):Nat:=(b - a+1).toNat
def cols (m:Nat)(rows:List (List Int)):List (List Int):=(List.range m).map fun i=>rows.map fun row=>row.getD i 0
theorem aFo {m:Nat}{rows:List (List Int)}{i:Nat}(h:i<m):(cols m rows)[i]? =some (rows.map fun row=>row.getD i 0):=by
  unfold cols
  rw [List.getElem?_map,List.getElem?_range h]; rfl
theorem nN (m:Nat)(rows:List (List Int)):(cols m rows).length=m:=by unfold cols; simp
theorem EvL_ok (v : List Int) (ph : List Str) (m : Nat) (rows : List (List Int)) (hv : v.length = m) (hm : m ≤ 1000) (hr : rows.length ≤ 100000) : Fcs v ph (cols m rows) = some (cols m (rows ++ [v])) := by
  unfold Fcs Fet
  rw [zU]
  have st : ∀ i, i < m → (cols m (rows ++ [v])).take i ++ (cols m rows).drop i = (cols m (rows ++ [v])).take i ++ (rows.map fun row => row.getD i 0) :: (cols m rows).drop (i + 1) := fun i hi => by
    rw [List.drop_eq_getElem_cons (by rw [nN]; exact hi)]
    have := aFo (rows := rows) hi
    rw [List.getElem?_eq_getElem (by rw [nN]; exact hi)] at this
    rw [Option.some.inj this]
  refine (aH (fun (i : Nat) => ((i : Int), (cols m (rows ++ [v])).take i ++ (cols m rows).drop i)) v (some (cols m (rows ++ [v]))) (by omega) ?_ ?_)
  · intro k i x hx hi
    have hlen : ((cols m (rows ++ [v])).take i).length = i := by rw [List.length_take, nN]; omega
    have hx2 : v.getD i 0 = x := by rw [List.getD_eq_getElem?_getD, hx]; rfl
    have nw : (cols m (rows ++ [v]))[i]? = some ((rows.map fun row => row.getD i 0) ++ [x]) := by
      rw [aFo (by omega), List.map_append, List.map_singleton, hx2]
    simp only [zU]
    rw [xP hi, yM, wG hx, st i (by omega), aIm _ _ _ i hlen]
    simp only [zQ]
    rw [ap8 (by rw [List.length_map]; omega), zQ, aJa _ _ _ _ i hlen, zQ, eQ hi (by omega), pR nw, List.append_assoc]
    rfl
  · intro k
    simp only [zU]
    rw [hv, xQ, yN, List.take_of_length_le (by rw [nN]; exact Nat.le_refl _), List.drop_eq_nil_of_le (by rw [nN]; exact Nat.le_refl _), List.append_nil]
theorem frame_ok {r:Rules}{l:List fG}(h:GB r l){a:Int}(k:Nat)(h0:0≤a)(h1:a+k≤4194303):
    Fa9 l (a+(k:Int))=some (tel l a k)∧Fa0 (runT (tel l a) (bV r l) k).2 (tel l a k)=some (nxt (tel l a k) (runT (tel l a) (bV r l) k).2)∧
    Fa7 (nxt (tel l a k) (runT (tel l a) (bV r l) k).2).2=some (phL (runT (tel l a) (bV r l) (k+1)).2.possible r.Phases):=by
  have w0:=aQy h
  have wk:=uM (f:=tel l a) w0 (aIr l a) k
  obtain ⟨n1,n2,n3,n4⟩:=aQn wk (aIr l a k)
  refine ⟨inputs_eq l _ h.t (by omega) (by omega),n1,?_⟩
  rw [Phase_eq n2]
  have e: ∀n,(runT (tel l a) (bV r l) n).2.phases=r.Phases:=by
    intro n
    induction n with
    | zero=>rfl
    | succ n ih=>exact ih
  have e1:=e (k+1)
  change (nxt (tel l a k) (runT (tel l a) (bV r l) k).2).2.phases=_ at e1
  rw [e1]; rfl
theorem aPo {r:Rules}{l:List fG}(f:Nat→List fV): ∀n,(runT f (bV r l) n).2.rules.length=r.Rules.length
  | 0=>by show (r.Rules.mapIdx _).length=_; simp
  | n+1=>by
    show (nxt (f n) (runT f (bV r l) n).2).2.rules.length=_
    rw [(jW _ _).2,aPo f n]
theorem span_bind (a b : Int) (K : Bool → Option (Int × List (List Int))) : (gG (gI (decide (a < 0)) fun x75 => gG (gQ x75 (some true) (gI (decide (b < a)) fun x81 => some x81)) fun j77 => gQ j77 (some true) (gI (decide (4194304 ≤ b)) fun x84 => some x84)) K) = K (decide (a < 0 ∨ b < a ∨ 4194304 ≤ b)) := by
  simp only [zU]
  by_cases h1 : a < 0
  · rw [decide_eq_true h1, decide_eq_true (Or.inl h1)]; rfl
  · rw [decide_eq_false h1]
    by_cases h2 : b < a
    · rw [decide_eq_true h2, decide_eq_true (Or.inr (Or.inl h2))]; rfl
    · rw [decide_eq_false h2]
      by_cases h3 : 4194304 ≤ b
      · rw [decide_eq_true h3, decide_eq_true (Or.inr (Or.inr h3))]; rfl
      · rw [decide_eq_false h3, decide_eq_false (by omega)]; rfl
theorem aPy {a b:Int}(h:0≤a∧a≤b∧b≤4194303):IntKind.i64.wrap (IntKind.i64.wrap (b - a)+1)=b - a+1:=by
  rw [wrap_i64 (n:=b - a) (by omega) (by omega),wrap_i64 (by omega) (by omega)]
def evV (r:Rules)(l:List fG)(a b:Int):List (List Int):=cols r.Rules.length (runT (tel l a) (bV r l) (spn a b)).1
theorem evalL_ok {r : Rules} {l : List fG} (h : GB r l) {a b : Int} (hs : vN a b = 0) :
    Fcc l b (a, cols r.Rules.length [], (bV r l).phases, (bV r l).tracks, (bV r l).moves, (bV r l).rules, (bV r l).possible) = some (evV r l a b) := by
  obtain ⟨s1, s2, s3, s4⟩ := aRh hs
  have hl := h.g.l
  have hn : spn a b = (b - a + 1).toNat := rfl
  unfold Fcc
  rw [show (a, cols r.Rules.length [], (bV r l).phases, (bV r l).tracks, (bV r l).moves, (bV r l).rules, (bV r l).possible) = (a + ((0 : Nat) : Int), cols r.Rules.length [], (bV r l).phases, (bV r l).tracks, (bV r l).moves, (bV r l).rules, (bV r l).possible) by simp]
  refine aH (β := List (List Int)) (γ := Int × List (List Int) × List Str × Int × List fJ × List Nd × List Bool) (fun i => (a + (i : Int), cols r.Rules.length (runT (tel l a) (bV r l) i).1, (runT (tel l a) (bV r l) i).2.phases, (runT (tel l a) (bV r l) i).2.tracks, (runT (tel l a) (bV r l) i).2.moves, (runT (tel l a) (bV r l) i).2.rules, (runT (tel l a) (bV r l) i).2.possible)) (List.replicate (spn a b) ()) (some (evV r l a b)) (by simp; omega) (fun k i x hx hi => ?_) (fun k => ?_)
  · rw [List.length_replicate] at hi
    obtain ⟨f1, f2, f3⟩ := frame_ok h (a := a) i s1 (by omega)
    simp only [zU]
    rw [decide_eq_true (by omega : a + (i : Int) ≤ b), yM, f1, zQ]
    show gG (Fa0 (runT (tel l a) (bV r l) i).2 (tel l a i)) _ = _
    rw [f2, zQ]
    show gG (Fa7 (nxt (tel l a i) (runT (tel l a) (bV r l) i).2).2) _ = _
    rw [f3, zQ, EvL_ok _ _ _ _ (by rw [(jW _ _).1, aPo]) (by omega) (by rw [aAm]; omega), zQ, wrap_i64 (by omega) (by omega)]
    rw [show a + (i : Int) + 1 = a + ((i + 1 : Nat) : Int) by omega]
    rfl
  · rw [List.length_replicate]
    simp only [zU]
    rw [decide_eq_false (by omega : ¬ a + ((spn a b : Nat) : Int) ≤ b), yN]
    rfl
theorem aCl {r : Rules} {l : List fG} (ok : okR r) (hl : okL pJ l) (hr : r.Rules.length ≤ 2000000) {a b : Int} (ha : i64 a) (hb : i64 b) : Fbg r l a b = some (if evE r l a b = 0 then (evV r l a b, 0) else ([], evE r l a b)) := by
  have mk : make' 24 (r.Rules.length : Int) ([] : List Int) = some (cols r.Rules.length []) := by
    unfold make'
    rw [if_pos ⟨by omega, by omega, by omega⟩, Int.toNat_natCast]
    unfold cols
    congr 1
    apply List.ext_getElem?
    intro i
    rw [List.getElem?_replicate, List.getElem?_map]
    by_cases c : i < r.Rules.length
    · rw [if_pos c, List.getElem?_range c]; rfl
    · rw [if_neg c, List.getElem?_eq_none (by simp; omega)]; rfl
  unfold Fbg
  simp only [zU]
  rw [mk, zQ]
  have key : ∃ z, Fcd r l a b (cols r.Rules.length []) = some (evE r l a b, z) ∧ (evE r l a b = 0 → z = evV r l a b) := by
    unfold Fcd
    rw [aJy ok hl, zQ]
    simp only [zU]
    unfold evE
    by_cases z : aAx r l = 0
    · have g := aRa ok z
      rw [decide_eq_false (by simpa using z), yN, if_neg (by simpa using z)]
      have sb := span_bind a b (fun g72 => gQ g72 (some (9, cols r.Rules.length [])) (gQ (decide (20000 < IntKind.i64.wrap (IntKind.i64.wrap (b - a) + 1))) (some (3, cols r.Rules.length [])) (gG (Fbz r l) fun x110 => gG (Fcc l b (a, cols r.Rules.length [], x110.phases, x110.tracks, x110.moves, x110.rules, x110.possible)) fun g362 => some (0, g362))))
      simp only [zU] at sb
      rw [sb]
      unfold vN
      by_cases c : a < 0 ∨ b < a ∨ 4194304 ≤ b
      · rw [decide_eq_true c, yM, if_pos c]
        exact ⟨_, rfl, fun h => absurd h (by decide)⟩
      · rw [decide_eq_false c, yN, if_neg c, aPy (by omega)]
        by_cases d : 20000 < b - a + 1
        · rw [decide_eq_true d, yM, if_pos d]
          exact ⟨_, rfl, fun h => absurd h (by decide)⟩
        · rw [decide_eq_false d, yN, if_neg d, aLm g, zQ, evalL_ok g (by unfold vN; rw [if_neg c, if_neg d]), zQ]
          exact ⟨_, rfl, fun _ => rfl⟩
    · rw [decide_eq_true (by simpa using z), yM, if_pos (by simpa using z)]
      exact ⟨_, rfl, fun h => absurd h z⟩
  obtain ⟨z, h1, h2⟩ := key
  rw [h1, zQ]
  simp only []
  by_cases c : evE r l a b = 0
  · rw [h2 c, c, if_pos rfl]; rfl
  · rw [decide_eq_true (by simpa using c), yM, if_neg c]
theorem ev_gb {r:Rules}{l:List fG}(ok:okR r){a b:Int}(h:evE r l a b=0):GB r l∧vN a b=0:=by
  unfold evE at h
  split at h
  · rename_i c; exact absurd h c
  · rename_i c; exact ⟨aRa ok (by simpa using c),h⟩
end Go.Lf
