/- Walks: what each function computes, for every argument; no condition but those that stand in the statements. -/
import Derived.Test.YthllgjnlmjpinaaGreatDoorKPa
import Derived.Test.YthllgjnlmjpinaaGreatDoorNTa
import Derived.Test.YthllgjnlmjpinaaGreatDoorVPa
namespace Go.Lf
open Go.OB
structure Mk where
  tr:Str→Int
  dn:Int→Int
  ph:Str→Int
  rl:Str→Int
def mkK (M:Mk)(k:Int)(nm ot:Str)(op n fr:Int)(ks:List Nd):Nd:=
  if k=1 then .constant 2 else if k=2 then .constant 1 else if k=3 then .number (M.tr nm) op n
  else if k=4 then .pair (M.tr nm) (M.tr ot) (M.dn (M.tr nm)) (M.dn (M.tr ot)) op
  else if k=5 then .steady (M.tr nm) n fr [] else if k=6 then .phase (M.ph nm) else if k=7 then .rule (M.rl nm)
  else if k=8 then .not (ks.getD 0 (.constant 0)) else if k=9∨k=10 then .group ks (decide (k=10))
  else if k=11 then .count (ks.getD 0 (.constant 0)) fr fr [] (sQ []) else if k=12 then .count (ks.getD 0 (.constant 0)) 1 fr [] (sQ [])
  else if k=13 then .count (ks.getD 0 (.constant 0)) n fr [] (sQ []) else if k=14 then .since (ks.getD 0 (.constant 0)) (ks.getD 1 (.constant 0)) 0 false
  else .rises (ks.getD 0 (.constant 0)) 0 false
mutual
def mkN (M:Mk):Cond→Nd
  | ⟨k,nm,ot,op,n,fr,ks⟩=>mkK M k nm ot op n fr (aLg M ks)
def aLg (M:Mk):List Cond→List Nd
  | []=>[]
  | c :: l=>mkN M c :: aLg M l
end
theorem aMn (M:Mk): ∀l,aLg M l=l.map (mkN M)
  | []=>by rw [aLg]; rfl
  | c :: l=>by rw [aLg,aMn M l]; rfl
theorem mkN_eq (M:Mk)(c:Cond):mkN M c=mkK M c.Kind c.Name c.Other c.Op c.N c.Frames (c.Kids.map (mkN M)):=by
 obtain ⟨k,nm,ot,op,n,fr,ks⟩:=c;rw [mkN,aMn]
theorem kinds {k:Int}(h:1≤k∧k≤15):k=1∨k=2∨k=3∨k=4∨k=5∨k=6∨k=7∨k=8∨k=9∨k=10∨k=11∨k=12∨k=13∨k=14∨k=15:=by omega
theorem aUc (ks:List Nd)(i:Nat):dpN (ks.getD i (.constant 0))≤dpL ks:=by
  rw [List.getD_eq_getElem?_getD]
  cases h:ks[i]? with
  | none=>exact Nat.zero_le _
  | some k=>exact aLo (List.mem_of_getElem? h)
theorem mkK_dp (M:Mk)(k:Int)(nm ot:Str)(op n fr:Int)(ks:List Nd):dpN (mkK M k nm ot op n fr ks)≤dpL ks+1:=by
 have h0:=aUc ks 0;have h1:=aUc ks 1;unfold mkK;by_cases e0:k=1;rw [if_pos e0]; exact Nat.zero_le _;rw [if_neg e0];by_cases e1:k=2;rw [if_pos e1]; exact Nat.zero_le _;rw [if_neg e1];by_cases e2:k=3;rw [if_pos e2]; exact Nat.zero_le _;rw [if_neg e2];by_cases e3:k=4;rw [if_pos e3]; exact Nat.zero_le _;rw [if_neg e3];by_cases e4:k=5;rw [if_pos e4]; exact Nat.zero_le _;rw [if_neg e4];by_cases e5:k=6;rw [if_pos e5]; exact Nat.zero_le _;rw [if_neg e5];by_cases e6:k=7;rw [if_pos e6]; exact Nat.zero_le _;rw [if_neg e6];by_cases e7:k=8;rw [if_pos e7]; rw [dpN]; omega;rw [if_neg e7];by_cases e8:k=9∨k=10;rw [if_pos e8]; rw [dpN]; exact Nat.le_refl _;rw [if_neg e8];by_cases e9:k=11;rw [if_pos e9]; rw [dpN]; omega;rw [if_neg e9];by_cases e10:k=12;rw [if_pos e10]; rw [dpN]; omega;rw [if_neg e10];by_cases e11:k=13;rw [if_pos e11]; rw [dpN]; omega;rw [if_neg e11];by_cases e12:k=14;rw [if_pos e12]; rw [dpN]; omega;rw [if_neg e12];rw [dpN]; omega
mutual
theorem aRx (M:Mk): ∀c,dpN (mkN M c)≤dN c
  | ⟨k,nm,ot,op,n,fr,ks⟩=>by
    have h:=aSy M ks
    have h1:=mkK_dp M k nm ot op n fr (aLg M ks)
    rw [mkN,dN]; omega
theorem aSy (M:Mk): ∀l,dpL (aLg M l)≤dNs l
  | []=>by rw [aLg,dpL]; exact Nat.zero_le _
  | c :: l=>by
    have h:=aRx M c
    have h1:=aSy M l
    rw [aLg,dpL,dNs]; omega
end
theorem aUm {c x:Cond}(hx:x ∈ c.Kids){s:Str}(hs:s ∈ jW x):s ∈ jW c:=by
  rw [aCf,List.mem_append]
  right
  have key: ∀l:List Cond,x ∈ l→s ∈ uU l:=by
    intro l
    induction l with
    | nil=>intro h; cases h
    | cons a l ih=>
      intro h
      rw [uU,List.mem_append]
      rcases List.mem_cons.1 h with rfl | h
      · left; exact hs
      · right; exact ih h
  exact key _ hx
theorem any_kid {p:Cond→Bool}{c x:Cond}(hx:x ∈ c.Kids)(h:aAv p c=false):aAv p x=false:=by
  rw [aTv,Bool.or_eq_false_iff] at h
  have key: ∀l:List Cond,x ∈ l→aHp p l=false→aAv p x=false:=by
    intro l
    induction l with
    | nil=>intro h; cases h
    | cons a l ih=>
      intro h q
      rw [aHp,Bool.or_eq_false_iff] at q
      rcases List.mem_cons.1 h with rfl | h
      · exact q.1
      · exact ih h q.2
  exact key _ hx h.2
theorem any_self {p:Cond→Bool}{c:Cond}(h:aAv p c=false):p c=false:=by
 rw [aTv,Bool.or_eq_false_iff] at h; exact h.1
theorem nT {c:Cond}(h:c.Kids.length=1): ∃x,c.Kids= [x]:=by
  match e:c.Kids,h with
  | [x],_=>exact ⟨x,rfl⟩
theorem aOh {c:Cond}(h:c.Kids.length=2): ∃x y,c.Kids= [x,y]:=by
  match e:c.Kids,h with
  | [x,y],_=>exact ⟨x,y,rfl⟩
theorem aQu (M : Mk) {T P R : Nat} (q : Cond → Bool) (hq : ∀ c, q c = false → (c.Kind = 6 → 0 ≤ M.ph c.Name ∧ M.ph c.Name < P) ∧ (c.Kind = 7 → 0 ≤ M.rl c.Name ∧ M.rl c.Name < R)) :
    ∀ (m : Nat) (c : Cond), dN c ≤ m → Gt c → (∀ s ∈ jW c, 0 ≤ M.tr s ∧ M.tr s < T) → aAv q c = false → wfN T P R (mkN M c)
  | 0, c, h, _, _, _ => by have := aDw c; omega
  | m + 1, c, h, g, ht, ha => by
    have hk : ∀ x ∈ c.Kids, wfN T P R (mkN M x) := fun x hx => by
      obtain ⟨j, hj⟩ := List.getElem?_of_mem hx
      exact aQu M q hq m x (by have := (aAs g.ok hj).2.1; omega) (g.kid hx) (fun s hs => ht s (aUm hx hs)) (any_kid hx ha)
    have gk := g.gk
    have gs := g.self
    have hl := g.kids
    have qs := hq c (any_self ha)
    have nm : ∀ s ∈ nm1 c, 0 ≤ M.tr s ∧ M.tr s < T := fun s hs => ht s (by rw [aCf, List.mem_append]; exact Or.inl hs)
    have g1 := gs.fr
    have g2 := gs.n
    rw [mkN_eq]
    rcases kinds gs.k1 with e | e | e | e | e | e | e | e | e | e | e | e | e | e | e <;> rw [e] <;> simp only [mkK, Int.reduceEq, if_true, if_false, or_true, true_or, or_self]
    · exact ⟨by omega, by omega⟩
    · exact ⟨by omega, by omega⟩
    · exact nm c.Name (by unfold nm1; simp [e])
    · exact ⟨nm c.Name (by unfold nm1; simp [e]), nm c.Other (by unfold nm1; simp [e])⟩
    · have := gk.fr (by omega)
      exact ⟨nm c.Name (by unfold nm1; simp [e]), ⟨by omega, by omega⟩, by simp; omega⟩
    · exact qs.1 e
    · exact qs.2 e
    · obtain ⟨x, hx⟩ := nT (gk.o (by omega))
      rw [hx]; exact hk x (by rw [hx]; exact List.mem_cons_self)
    · exact ⟨aBr.2 fun x hx => by obtain ⟨y, hy, rfl⟩ := List.mem_map.1 hx; exact hk y hy, by rw [List.length_map]; omega⟩
    · exact ⟨aBr.2 fun x hx => by obtain ⟨y, hy, rfl⟩ := List.mem_map.1 hx; exact hk y hy, by rw [List.length_map]; omega⟩
    · obtain ⟨x, hx⟩ := nT (gk.o (by omega))
      have := gk.fr (by omega)
      rw [hx]; exact ⟨hk x (by rw [hx]; exact List.mem_cons_self), ⟨by omega, by omega⟩, ⟨by omega, by omega⟩, by simp; omega, by simp, rfl⟩
    · obtain ⟨x, hx⟩ := nT (gk.o (by omega))
      have := gk.fr (by omega)
      rw [hx]; exact ⟨hk x (by rw [hx]; exact List.mem_cons_self), ⟨by omega, by omega⟩, ⟨by omega, by omega⟩, by simp; omega, by simp, rfl⟩
    · obtain ⟨x, hx⟩ := nT (gk.o (by omega))
      have := gk.fr (by omega)
      have := gk.cn e
      rw [hx]; exact ⟨hk x (by rw [hx]; exact List.mem_cons_self), ⟨by omega, by omega⟩, ⟨by omega, by omega⟩, by simp; omega, by simp, rfl⟩
    · obtain ⟨x, y, hx⟩ := aOh (gk.t e)
      rw [hx]; exact ⟨hk x (by rw [hx]; simp), hk y (by rw [hx]; simp), by omega, by omega⟩
    · obtain ⟨x, hx⟩ := nT (gk.o (by omega))
      rw [hx]; exact ⟨hk x (by rw [hx]; exact List.mem_cons_self), by omega, by omega⟩
end Go.Lf
namespace Go.Lf
open Go.OB
theorem aOj {α:Type}(p:α→Bool): ∀(l:List α) (i:Nat),∃n,dC (fun i x=>if p x=true then some (some (i:Int)) else none) (some (-1)) l i=some n∧(l.any p=true→(i:Int)≤n∧n<i+l.length)
  | [],i=>⟨-1,rfl,fun h=>by simp at h⟩
  | x :: l,i=>by
    rw [dC]
    cases h:p x with
    | true=>exact ⟨i,rfl,fun _=>by rw [List.length_cons]; omega⟩
    | false=>
      obtain ⟨n,h1,h2⟩:=aOj p l (i+1)
      refine ⟨n,by simpa using h1,fun q=>?_⟩
      rw [List.any_cons,h,Bool.false_or] at q
      have:=h2 q
      rw [List.length_cons]; omega
def aIb (l:List Str)(s:Str):Int:=(Fad l s).getD (-1)
theorem aBj (l : List Str) (s : Str) (hl : l.length ≤ 9223372036854775807) : Fad l s = some (aIb l s) ∧ (s ∈ l → 0 ≤ aIb l s ∧ aIb l s < l.length) := by
  obtain ⟨n, h1, h2⟩ := aOj (fun y => decide (s = y)) l 0
  have e : Fad l s = some n := by
    unfold Fad
    simp only [zM, xX]
    unfold Fda
    rw [← h1]
    refine xU l _ _ hl ?_ ?_
    · intro kk i x hx hi
      simp only [zM, zI]
      rw [xE hi, yF, xQ hx, zI, eH hi hl]
      cases decide (s = x) <;> rfl
    · intro kk; simp only [zM]; rw [xH]; rfl
  have e2 : aIb l s = n := by unfold aIb; rw [e]; rfl
  refine ⟨by rw [e2]; exact e, fun h => ?_⟩
  have := h2 (by rw [List.any_eq_true]; exact ⟨s, h, by simp⟩)
  rw [e2]; omega
def mkrM (k:eX):Mk:=⟨fun s=>jX k.tracks s 0,fun i=>(at' k.dens i).getD 0,fun s=>aIb k.phases s,fun s=>jX k.rules s 0⟩
theorem aIh:(Arr.rep 3 0:Arr 3 Int)=sQ []:=aKm rfl
theorem at_D {l:List Int}{i:Int}(h:0≤i∧i<l.length):at' l i=some ((at' l i).getD 0):=by
 obtain ⟨x,hx⟩:=aCh h;rw [hx]; rfl
theorem aUw (k : eX) (hp : k.phases.length ≤ 9223372036854775807) : ∀ (n : Nat) (c : Cond), dN c ≤ n → Gt c → (∀ s ∈ jW c, 0 ≤ jX k.tracks s 0 ∧ jX k.tracks s 0 < k.dens.length) → Fa9 n k c = some (mkN (mkrM k) c)
  | 0, c, h, _, _ => by have := aDw c; omega
  | n + 1, c, h, g, ht => by
    have hl := g.kids
    have gk := g.gk
    have gs := g.self
    have nm : ∀ s ∈ nm1 c, 0 ≤ jX k.tracks s 0 ∧ jX k.tracks s 0 < k.dens.length := fun s hs => ht s (by rw [aCf, List.mem_append]; exact Or.inl hs)
    have e1 : Fb8 (Fa9 n) k c.Kids = some (c.Kids.map (mkN (mkrM k))) := by
      unfold Fb8 Fgh
      rw [zM]
      refine (congrArg (fun o => gG o fun g => some g) (bI (fun (i : Nat) => ((c.Kids.take i).map (mkN (mkrM k)), (i : Int))) c.Kids (some (c.Kids.map (mkN (mkrM k)))) (by omega) ?_ ?_)).trans (zI _ _)
      · intro kk i x hx hi
        obtain ⟨k1, k2, k3⟩ := aAs g.ok hx
        have hm := List.mem_of_getElem? hx
        simp only [zM]
        rw [xE hi, yF, xQ hx, zI, aUw k hp n x (by omega) (g.kid hm) (fun s hs => ht s (aUm hm hs)), zI, ap16 (by simp; omega), zI, eH hi (by omega), nY hx, List.map_append]
        rfl
      · intro kk
        simp only [zM]
        rw [xH, yE, List.take_length]
    show Fdf (Fa9 n) k c = _
    unfold Fdf
    show gG (Fb8 (Fa9 n) k c.Kids) _ = _
    rw [e1, zI, mkN_eq]
    have at0 : ∀ (l : List Nd) (x : Nd), l = [x] → at' l 0 = some x := fun l x h => by rw [h]; rfl
    rcases kinds gs.k1 with e | e | e | e | e | e | e | e | e | e | e | e | e | e | e <;> rw [e] <;> simp only [zM, zI, Int.reduceEq, decide_true, decide_false, yF, yE, mkK, if_true, if_false, or_true, true_or, or_self]
    · rfl
    · have a := nm c.Name (by unfold nm1; simp [e])
      have b := nm c.Other (by unfold nm1; simp [e])
      rw [at_D a, at_D b]
      rfl
    · rfl
    · rw [(aBj k.phases c.Name hp).1]; rfl
    · rfl
    · obtain ⟨x, hx⟩ := nT (gk.o (by omega))
      rw [hx]; rfl
    · obtain ⟨x, hx⟩ := nT (gk.o (by omega))
      rw [hx, aIh]; rfl
    · obtain ⟨x, hx⟩ := nT (gk.o (by omega))
      rw [hx, aIh]; rfl
    · obtain ⟨x, hx⟩ := nT (gk.o (by omega))
      rw [hx, aIh]; rfl
    · obtain ⟨x, y, hx⟩ := aOh (gk.t e)
      rw [hx]; rfl
    · obtain ⟨x, hx⟩ := nT (gk.o (by omega))
      rw [hx]; rfl
theorem maker_ok (k:eX)(hp:k.phases.length≤9223372036854775807){c:Cond}(g:Gt c)(ht: ∀s ∈ jW c,0≤jX k.tracks s 0∧jX k.tracks s 0<k.dens.length):Fbr k c=some (mkN (mkrM k) c):=
  aUw k hp FU c (Nat.le_of_lt (aJg (by have:=g.d; omega))) g ht
end Go.Lf
namespace Go.Lf
open Go.OB
def aV:List Str→Nat→List (Str×Int)
  | [],_=>[]
  | s :: l,i=>(s,(i:Int)) :: aV l (i+1)
theorem aAa (s:Str): ∀(l:List Str) (i:Nat),aV (l++ [s]) i=aV l i++ [(s,((i+l.length:Nat):Int))]
  | [],i=>rfl
  | x :: l,i=>by
    rw [List.cons_append,aV,aV,aAa s l (i+1),List.cons_append,List.length_cons,show i+1+l.length=i+(l.length+1) by omega]
theorem aCr (s:Str): ∀(l:List Str) (i:Nat),(aV l i).any (fun p=>decide (p.1=s))=l.any (fun x=>decide (x=s))
  | [],_=>rfl
  | x :: l,i=>by rw [aV,List.any_cons,List.any_cons,aCr s l (i+1)]
theorem mget_cons (k:Str)(v:Int)(l:List (Str×Int))(s:Str):jX ((k,v) :: l) s 0=if k=s then v else jX l s 0:=by
 unfold jX;rw [List.find?_cons];by_cases h:k=s;simp [h];simp [h]
theorem aDd (s : Str) : ∀ (l : List Str) (i : Nat), s ∈ l → ∃ j : Nat, jX (aV l i) s 0 = ((i + j : Nat) : Int) ∧ l[j]? = some s
  | [], _, h => by simp at h
  | x :: l, i, h => by
    rw [aV, mget_cons]
    by_cases c : x = s
    · subst c; exact ⟨0, by rw [if_pos rfl]; rfl, rfl⟩
    · obtain ⟨j, h1, h2⟩ := aDd s l (i + 1) ((List.mem_cons.1 h).resolve_left (Ne.symm c))
      exact ⟨j + 1, by rw [if_neg c, h1]; congr 1; omega, by simpa using h2⟩
def trI (l:List Track)(s:Str):Int:=jX (aV (l.map Track.Name) 0) s 0
def uT (l:List Track):List Int:=l.map fun t=>t.Series.Den
theorem trI_ok {l:List Track}{s:Str}(h:s ∈ l.map Track.Name):0≤trI l s∧trI l s<l.length:=by
 obtain ⟨j,h1,h2⟩:=aDd s (l.map Track.Name) 0 h;have:=(List.getElem?_eq_some_iff.1 h2).1;rw [List.length_map] at this;unfold trI; rw [h1]; omega
theorem newL1_ok (l : List Track) (h : TK l) : Ffa l (l.length : Int) (0, ([] : List (Str × Int)), []) = some (aV (l.map Track.Name) 0, uT l) := by
  have hl := (aMw h).1
  unfold Ffa
  refine bI (fun (i : Nat) => ((i : Int), aV ((l.take i).map Track.Name) 0, uT (l.take i))) l (some (aV (l.map Track.Name) 0, uT l)) (by omega) ?_ ?_
  · intro k i x hx hi
    have na : (aV ((l.take i).map Track.Name) 0).any (fun p => decide (p.1 = x.Name)) = false := by
      rw [aCr, List.any_eq_false]
      intro y hy
      obtain ⟨z, hz, rfl⟩ := List.mem_map.1 hy
      obtain ⟨j, hj⟩ := List.getElem?_of_mem hz
      rw [List.getElem?_take] at hj
      split at hj
      · rename_i c
        simpa using h.d _ _ _ _ hj hx c
      · cases hj
    simp only [zM]
    rw [xE hi, yF, xQ hx, zI, wL _ _ na, ap8 (by unfold uT; simp; omega), zI, eH hi (by omega), nY hx, List.map_append, List.map_singleton, aAa]
    unfold uT
    rw [List.map_append, List.length_map, List.length_take, Nat.zero_add, Nat.min_eq_left (by omega)]
    rfl
  · intro k
    simp only [zM]
    rw [xH, yE, List.take_length]
def MkR (r:Rules)(l:List Track)(i:Nat):Mk:=⟨trI l,fun i=>(at' (uT l) i).getD 0,fun s=>aIb r.Phases s,fun s=>jX (aV ((r.Rules.take i).map kE.Name) 0) s 0⟩
def rlN (r:Rules)(l:List Track)(i:Nat)(x:kE):Nd:=mkN (MkR r l i) x.When
def mvN (r:Rules)(l:List Track)(m:pK):fZ:=fZ.mk (aIb r.Phases m.From) (aIb r.Phases m.To) (mkN (MkR r l 0) m.When)
def aCo (r:Rules)(l:List Track):fC:=
  fC.mk r.Phases (l.length:Int) (r.Moves.map (mvN r l)) (r.Rules.mapIdx (rlN r l)) ((List.replicate r.Phases.length false).set 0 true)
structure GB (r:Rules)(l:List Track):Prop where
  ok:okR r
  c:chk r=some 0
  t:TK l
  n: ∀s ∈ jB r,s ∈ l.map Track.Name
theorem GB.g {r:Rules}{l:List Track}(h:GB r l):Gr' r:=pF h.ok h.c
theorem nm_mv {r:Rules}{m:pK}(hm:m ∈ r.Moves){s:Str}(hs:s ∈ jW m.When):s ∈ jB r:=by
 unfold jB;rw [List.mem_append,List.mem_flatMap,List.mem_flatMap];exact Or.inl ⟨m,hm,hs⟩
theorem nm_rl {r:Rules}{x:kE}(hm:x ∈ r.Rules){s:Str}(hs:s ∈ jW x.When):s ∈ jB r:=by
 unfold jB;rw [List.mem_append,List.mem_flatMap,List.mem_flatMap];exact Or.inr ⟨x,hm,hs⟩
theorem aMq {r:Rules}{l:List Track}(h:GB r l)(i:Nat){c:Cond}(g:Gt c)(hn: ∀s ∈ jW c,s ∈ jB r):Fbr (eX.mk (aV (l.map Track.Name) 0) (uT l) r.Phases (aV ((r.Rules.take i).map kE.Name) 0)) c=some (mkN (MkR r l i) c):=by
 have hp:=h.g.p;refine maker_ok _ (by show r.Phases.length≤_; omega) g fun s hs=>?_;have:=trI_ok (h.n s (hn s hs));show 0≤trI l s∧trI l s<(uT l).length;unfold uT;rw [List.length_map]; exact this
theorem newL2_ok {r : Rules} {l : List Track} (h : GB r l) : Fep r (aV (l.map Track.Name) 0) (uT l) (r.Moves.length : Int) (0, []) = some (r.Moves.map (mvN r l)) := by
  have g := h.g
  have hm := g.m
  have hp := g.p
  unfold Fep
  refine bI (fun (i : Nat) => ((i : Int), (r.Moves.take i).map (mvN r l))) r.Moves (some (r.Moves.map (mvN r l))) (by omega) ?_ ?_
  · intro k i x hx hi
    have mx := List.mem_of_getElem? hx
    have e := aMq h 0 (g.mg x mx).1 fun s hs => nm_mv mx hs
    rw [List.take_zero] at e
    change Fbr (eX.mk (aV (l.map Track.Name) 0) (uT l) r.Phases []) x.When = _ at e
    have a32 : app' 32 ((r.Moves.take i).map (mvN r l)) [mvN r l x] = some ((r.Moves.take i).map (mvN r l) ++ [mvN r l x]) := by
      unfold app'
      rw [if_pos ⟨by rw [maxLen_eq]; simp; omega, by simp; omega⟩]
    simp only [zM]
    rw [xE hi, yF, xQ hx, zI, (aBj r.Phases x.From (by omega)).1, (aBj r.Phases x.To (by omega)).1, zI, zI, e, zI]
    show gG (app' 32 ((r.Moves.take i).map (mvN r l)) [mvN r l x]) _ = _
    rw [a32, zI, eH hi (by omega), nY hx, List.map_append]
    rfl
  · intro k
    simp only [zM]
    rw [xH, yE, List.take_length]
theorem aMo {α β:Type}(f:Nat→α→β)(l:List α)(x:α):(l++ [x]).mapIdx f=l.mapIdx f++ [f l.length x]:=by
 rw [List.mapIdx_append]; simp
theorem newL3_ok {r : Rules} {l : List Track} (h : GB r l) : Fek r (aV (l.map Track.Name) 0) (uT l) (r.Rules.length : Int) (0, ([] : List (Str × Int)), []) = some (r.Rules.mapIdx (rlN r l)) := by
  have g := h.g
  have hl := g.l
  have hr := chk_rl h.c
  unfold Fek
  refine bI (fun (i : Nat) => ((i : Int), aV ((r.Rules.take i).map kE.Name) 0, (r.Rules.take i).mapIdx (rlN r l))) r.Rules (some (r.Rules.mapIdx (rlN r l))) (by omega) ?_ ?_
  · intro k i x hx hi
    have mx := List.mem_of_getElem? hx
    have e := aMq h i (g.lg x mx).1 fun s hs => nm_rl mx hs
    have na : (aV ((r.Rules.take i).map kE.Name) 0).any (fun p => decide (p.1 = x.Name)) = false := by
      rw [aCr, List.any_map]
      exact (hr i x hx).1
    have hlen : (r.Rules.take i).length = i := by rw [List.length_take]; omega
    simp only [zM]
    rw [xE hi, yF, xQ hx, zI, e, zI, ap16 (by simp; omega), zI, wL _ _ na, eH hi (by omega), nY hx, aMo, List.map_append, List.map_singleton, aAa, hlen, List.length_map, hlen, Nat.zero_add]
    rfl
  · intro k
    simp only [zM]
    rw [xH, yE, List.take_length]
theorem cloneS_eq (l:List Str)(h:l.length≤1000000):Fcw l=some l:=by
  unfold Fcw
  have e:app' 16 ([]:List Str) l=some l:=by
    unfold app'
    rw [if_pos ⟨by rw [maxLen_eq]; simp; omega,by simp; omega⟩,List.nil_append]
  rw [e]
  cases l with
  | nil=>rfl
  | cons a l=>rfl
theorem aNz {r:Rules}{l:List Track}(h:GB r l):Fdi r l=some (aCo r l):=by
  have hp:=h.g.p
  unfold Fdi
  simp only [zM]
  rw [newL1_ok l h.t,zI]
  dsimp only
  rw [cloneS_eq _ (by omega),zI]
  have mk:make' 1 (r.Phases.length:Int) false=some (List.replicate r.Phases.length false):=by
    unfold make'
    rw [if_pos ⟨by omega,by omega,by omega⟩,Int.toNat_natCast]
  rw [mk,zI,newL2_ok h,newL3_ok h]
  simp only [zI]
  have e:(gU (decide (0<(r.Phases.length:Int))) (gG (at' (List.replicate r.Phases.length false) 0) fun x632=>gG (set' (List.replicate r.Phases.length false) 0 true) fun x643=>some x643) (some (List.replicate r.Phases.length false)))=some ((List.replicate r.Phases.length false).set 0 true):=by
    cases hP:r.Phases.length with
    | zero=>rfl
    | succ n=>
      rw [decide_eq_true (by omega),yF]
      obtain ⟨x,hx⟩:=aCh (l:=List.replicate (n+1) false) (i:=0) ⟨by omega,by simp⟩
      rw [hx,zI,aRi ⟨by omega,by simp⟩]
      rfl
  rw [e,zI]
  rfl
end Go.Lf
namespace Go.Lf
open Go.OB
theorem mv_ok {r : Rules} (h : chk r = some 0) {m : pK} (hm : m ∈ r.Moves) : m.From ∈ r.Phases ∧ m.To ∈ r.Phases ∧ aAv pMv m.When = false := by
  unfold chk at h
  split at h
  · exact absurd (Option.some.inj h) (by decide)
  · obtain ⟨h1, h2⟩ := aX (phE r.Phases) _ _ _ h
    obtain ⟨h3, h4⟩ := aX (fun _ => mvE r) _ _ _ h1
    obtain ⟨i, hi⟩ := List.getElem?_of_mem hm
    have := h4 i m hi
    unfold mvE at this
    split at this
    · rename_i c
      split at this
      · split at this
        · exact absurd this (by decide)
        · rename_i d
          have a : ∀ {s : Str}, (r.Phases.any fun y => decide (s = y)) = true → s ∈ r.Phases := by
            intro s hs
            rw [List.any_eq_true] at hs
            obtain ⟨y, h1, h2⟩ := hs
            rw [of_decide_eq_true h2]; exact h1
          exact ⟨a c.1, a c.2, by simpa using d⟩
      · rename_i d; exact absurd this d
    · exact absurd this (by decide)
theorem idx_ok {r:Rules}{l:List Track}(h:GB r l){s:Str}(hs:s ∈ r.Phases):0≤aIb r.Phases s∧aIb r.Phases s<r.Phases.length:=(aBj r.Phases s (by have:=h.g.p; omega)).2 hs
theorem nmd_mem {l:List kE}{s:Str}(h:nmd l s=true):s ∈ l.map kE.Name:=by
 unfold nmd at h;rw [List.any_eq_true] at h;obtain ⟨y,h1,h2⟩:=h;rw [← of_decide_eq_true h2];exact List.mem_map_of_mem h1
theorem rl_named {r : Rules} (i : Nat) {c : Cond} (h : pRl r i c = false) : (c.Kind = 6 → c.Name ∈ r.Phases) ∧ (c.Kind = 7 → c.Name ∈ (r.Rules.take i).map kE.Name) := by
 unfold pRl at h;rw [Bool.or_eq_false_iff] at h;refine ⟨fun e => ?_, fun e => ?_⟩;have h1 := h.1;rw [e, decide_eq_true rfl, Bool.true_and, Bool.not_eq_false'] at h1;rw [List.any_eq_true] at h1;obtain ⟨y, h2, h3⟩ := h1;rw [of_decide_eq_true h3]; exact h2;have h1 := h.2;rw [e, decide_eq_true rfl, Bool.true_and, Bool.not_eq_false'] at h1;exact nmd_mem h1
theorem newW_wf {r : Rules} {l : List Track} (h : GB r l) : WfW (aCo r l) l.length r.Phases.length := by
  have g := h.g
  have hp := g.p
  have hr := chk_rl h.c
  have tr : ∀ s ∈ jB r, 0 ≤ trI l s ∧ trI l s < l.length := fun s hs => trI_ok (h.n s hs)
  refine ⟨rfl, by show ((List.replicate _ _).set _ _).length = _; simp, by omega, rfl, by show (r.Moves.map _).length ≤ _; have := g.m; simp; omega, by show (r.Rules.mapIdx _).length ≤ _; have := g.l; simp; omega, fun x hx => ?_, fun i k hk => ?_⟩
  · obtain ⟨m, hm, rfl⟩ := List.mem_map.1 hx
    obtain ⟨m1, m2, m3⟩ := mv_ok h.c hm
    have gm := (g.mg m hm).1
    have d := aRx (MkR r l 0) m.When
    have gd := gm.d
    refine ⟨idx_ok h m2, ?_, by show dpN (mkN (MkR r l 0) m.When) ≤ _; omega⟩
    refine aQu (MkR r l 0) pMv (fun c hc => ?_) (dN m.When) m.When (Nat.le_refl _) gm (fun s hs => tr s (nm_mv hm hs)) m3
    unfold pMv at hc
    constructor
    · intro e; rw [e] at hc; simp at hc
    · intro e; rw [e] at hc; simp at hc
  · change (r.Rules.mapIdx (rlN r l))[i]? = some k at hk
    rw [List.getElem?_mapIdx, Option.map_eq_some_iff] at hk
    obtain ⟨x, hx, rfl⟩ := hk
    have mx := List.mem_of_getElem? hx
    have gx := (g.lg x mx).1
    have d := aRx (MkR r l i) x.When
    have gd := gx.d
    refine ⟨?_, by show dpN (mkN (MkR r l i) x.When) ≤ _; omega⟩
    refine aQu (MkR r l i) (pRl r i) (fun c hc => ?_) (dN x.When) x.When (Nat.le_refl _) gx (fun s hs => tr s (nm_rl mx hs)) (hr i x hx).2
    obtain ⟨q1, q2⟩ := rl_named i hc
    refine ⟨fun e => idx_ok h (q1 e), fun e => ?_⟩
    obtain ⟨j, h1, h2⟩ := aDd c.Name ((r.Rules.take i).map kE.Name) 0 (q2 e)
    have := (List.getElem?_eq_some_iff.1 h2).1
    rw [List.length_map, List.length_take] at this
    show 0 ≤ jX (aV ((r.Rules.take i).map kE.Name) 0) c.Name 0 ∧ jX (aV ((r.Rules.take i).map kE.Name) 0) c.Name 0 < (i : Int)
    rw [h1]; omega
end Go.Lf
namespace Go.Lf
open Go.OB
def phL:List Bool→List Str→List Str
  | true :: bs,s :: ss=>s :: phL bs ss
  | false :: bs,_ :: ss=>phL bs ss
  | _,_=>[]
theorem aGx (b:Bool)(s:Str): ∀(bs:List Bool) (ss:List Str),bs.length=ss.length→phL (bs++ [b]) (ss++ [s])=phL bs ss++if b=true then [s] else []
  | [],[],_=>by cases b<;>rfl
  | [],_ :: _,h=>by simp at h
  | _ :: _,[],h=>by simp at h
  | true :: bs,x :: ss,h=>by
    rw [List.cons_append,List.cons_append,phL,phL,aGx b s bs ss (by simpa using h),List.cons_append]
  | false :: bs,x :: ss,h=>by
    rw [List.cons_append,List.cons_append,phL,phL,aGx b s bs ss (by simpa using h)]
theorem aKt: ∀(bs:List Bool) (ss:List Str),(phL bs ss).length≤ss.length
  | [],ss=>by simp [phL]
  | b :: bs,[]=>by cases b<;>simp [phL]
  | true :: bs,x :: ss=>by rw [phL,List.length_cons,List.length_cons]; have:=aKt bs ss; omega
  | false :: bs,x :: ss=>by rw [phL,List.length_cons]; have:=aKt bs ss; omega
theorem Phase_eq {w : fC} {T P : Nat} (h : WfW w T P) : Fbt w = some (phL w.possible w.phases) := by
 have hb := h.pb;have h1 := h.po;have h2 := h.ph;unfold Fbt Fgo;rw [zM];refine (congrArg (fun o => gG o fun g => some g) (bI (fun (i : Nat) => (phL (w.possible.take i) (w.phases.take i), (i : Int))) w.possible (some (phL w.possible w.phases)) (by omega) ?_ ?_)).trans (zI _ _);intro k i x hx hi;have hi2 : i < w.phases.length := by omega
 have hs : w.phases[i]? = some w.phases[i] := List.getElem?_eq_getElem hi2;have hl := aKt (w.possible.take i) (w.phases.take i);have ht : (w.phases.take i).length ≤ w.phases.length := by rw [List.length_take]; omega
 simp only [zM];rw [xE hi, yF, xQ hx, xQ hs, eH hi (by omega), nY hx, nY hs, aGx _ _ _ _ (by simp; omega)];simp only [zI];cases x;simp [gU, gG];rw [yF, ap16 (by omega), zI]; rfl;intro k;simp only [zM];rw [xH, yE, List.take_length, List.take_of_length_le (by omega)]
end Go.Lf
