/- Walks: what each function computes, for every argument; no condition but those that stand in the statements. -/
import Derived.Test.YtckmiljbaejijaaGreatDoorKFa
import Derived.Test.YtckmiljbaejijaaGreatDoorWTa
import Derived.Test.YtckmiljbaejijaaGreatDoorVUa
namespace Go.Lf
open Go.OB
structure Gkl (l:List Cond):Prop where
  ok: ∀x ∈ l,okC x
  e: ∀x ∈ l,fE ck1 x=0
theorem i0:i64 0:=⟨by decide,by decide⟩
end Go.Lf
namespace Go.Lf
open Go.OB
structure Mk where
  tr:Str→Int
  dn:Int→Int
  ph:Str→Int
  rl:Str→Int
def mkK (M:Mk)(k:Int)(nm ot:Str)(op n fr:Int)(ks:List Nd):Nd:=
  if k=1 then .constant 2 else if k=2 then .constant 1 else if k=3 then .number (M.tr nm) op n
  else if k=4 then .pair (M.tr nm) (M.tr ot) (M.dn (M.tr nm)) (M.dn (M.tr ot)) op
  else if k=5 then .steady (M.tr nm) n fr [] else if k=6 then .phase (M.ph nm) else if k=7 then .rule (M.rl nm)
  else if k=8 then .not (ks.getD 0 (.constant 0)) else if k=9∨k=10 then .group ks (decide (k=10))
  else if k=11 then .count (ks.getD 0 (.constant 0)) fr fr [] (tots []) else if k=12 then .count (ks.getD 0 (.constant 0)) 1 fr [] (tots [])
  else if k=13 then .count (ks.getD 0 (.constant 0)) n fr [] (tots []) else if k=14 then .since (ks.getD 0 (.constant 0)) (ks.getD 1 (.constant 0)) 0 false
  else .rises (ks.getD 0 (.constant 0)) 0 false
mutual
def mkN (M:Mk):Cond→Nd
  | ⟨k,nm,ot,op,n,fr,ks⟩=>mkK M k nm ot op n fr (mkNs M ks)
def mkNs (M:Mk):List Cond→List Nd
  | []=>[]
  | c :: l=>mkN M c :: mkNs M l
end
theorem mkNs_map (M:Mk): ∀l,mkNs M l=l.map (mkN M)
  | []=>by rw [mkNs]; rfl
  | c :: l=>by rw [mkNs,mkNs_map M l]; rfl
theorem mkN_eq (M:Mk)(c:Cond):mkN M c=mkK M c.Kind c.Name c.Other c.Op c.N c.Frames (c.Kids.map (mkN M)):=by
  obtain ⟨k,nm,ot,op,n,fr,ks⟩:=c
  rw [mkN,mkNs_map]
theorem kinds {k:Int}(h:1≤k∧k≤15):k=1∨k=2∨k=3∨k=4∨k=5∨k=6∨k=7∨k=8∨k=9∨k=10∨k=11∨k=12∨k=13∨k=14∨k=15:=by omega
theorem getD_dp (ks:List Nd)(i:Nat):dpN (ks.getD i (.constant 0))≤dpL ks:=by
  rw [List.getD_eq_getElem?_getD]
  cases h:ks[i]? with
  | none=>exact Nat.zero_le _
  | some k=>exact dpL_mem (List.mem_of_getElem? h)
theorem mkK_dp (M:Mk)(k:Int)(nm ot:Str)(op n fr:Int)(ks:List Nd):dpN (mkK M k nm ot op n fr ks)≤dpL ks+1:=by
  have h0:=getD_dp ks 0
  have h1:=getD_dp ks 1
  unfold mkK
  by_cases e0:k=1
  · rw [if_pos e0]; exact Nat.zero_le _
  rw [if_neg e0]
  by_cases e1:k=2
  · rw [if_pos e1]; exact Nat.zero_le _
  rw [if_neg e1]
  by_cases e2:k=3
  · rw [if_pos e2]; exact Nat.zero_le _
  rw [if_neg e2]
  by_cases e3:k=4
  · rw [if_pos e3]; exact Nat.zero_le _
  rw [if_neg e3]
  by_cases e4:k=5
  · rw [if_pos e4]; exact Nat.zero_le _
  rw [if_neg e4]
  by_cases e5:k=6
  · rw [if_pos e5]; exact Nat.zero_le _
  rw [if_neg e5]
  by_cases e6:k=7
  · rw [if_pos e6]; exact Nat.zero_le _
  rw [if_neg e6]
  by_cases e7:k=8
  · rw [if_pos e7]; rw [dpN]; omega
  rw [if_neg e7]
  by_cases e8:k=9∨k=10
  · rw [if_pos e8]; rw [dpN]; exact Nat.le_refl _
  rw [if_neg e8]
  by_cases e9:k=11
  · rw [if_pos e9]; rw [dpN]; omega
  rw [if_neg e9]
  by_cases e10:k=12
  · rw [if_pos e10]; rw [dpN]; omega
  rw [if_neg e10]
  by_cases e11:k=13
  · rw [if_pos e11]; rw [dpN]; omega
  rw [if_neg e11]
  by_cases e12:k=14
  · rw [if_pos e12]; rw [dpN]; omega
  rw [if_neg e12]
  rw [dpN]; omega
mutual
theorem mkN_dp (M:Mk): ∀c,dpN (mkN M c)≤dN c
  | ⟨k,nm,ot,op,n,fr,ks⟩=>by
    have h:=mkNs_dp M ks
    have h1:=mkK_dp M k nm ot op n fr (mkNs M ks)
    rw [mkN,dN]; omega
theorem mkNs_dp (M:Mk): ∀l,dpL (mkNs M l)≤dNs l
  | []=>by rw [mkNs,dpL]; exact Nat.zero_le _
  | c :: l=>by
    have h:=mkN_dp M c
    have h1:=mkNs_dp M l
    rw [mkNs,dpL,dNs]; omega
end
theorem nms_kid {c x:Cond}(hx:x ∈ c.Kids){s:Str}(hs:s ∈ kM x):s ∈ kM c:=by
  rw [nmsC_eq,List.mem_append]
  right
  have key: ∀l:List Cond,x ∈ l→s ∈ nmsCs l:=by
    intro l
    induction l with
    | nil=>intro h; cases h
    | cons a l ih=>
      intro h
      rw [nmsCs,List.mem_append]
      rcases List.mem_cons.1 h with rfl | h
      · left; exact hs
      · right; exact ih h
  exact key _ hx
theorem any_kid {p:Cond→Bool}{c x:Cond}(hx:x ∈ c.Kids)(h:anyC p c=false):anyC p x=false:=by
  rw [anyC_eq,Bool.or_eq_false_iff] at h
  have key: ∀l:List Cond,x ∈ l→anyCs p l=false→anyC p x=false:=by
    intro l
    induction l with
    | nil=>intro h; cases h
    | cons a l ih=>
      intro h q
      rw [anyCs,Bool.or_eq_false_iff] at q
      rcases List.mem_cons.1 h with rfl | h
      · exact q.1
      · exact ih h q.2
  exact key _ hx h.2
theorem any_self {p:Cond→Bool}{c:Cond}(h:anyC p c=false):p c=false:=by
  rw [anyC_eq,Bool.or_eq_false_iff] at h; exact h.1
theorem bP {c:Cond}(h:c.Kids.length=1): ∃x,c.Kids= [x]:=by
  match e:c.Kids,h with
  | [x],_=>exact ⟨x,rfl⟩
theorem two_kids {c:Cond}(h:c.Kids.length=2): ∃x y,c.Kids= [x,y]:=by
  match e:c.Kids,h with
  | [x,y],_=>exact ⟨x,y,rfl⟩
theorem mkN_wf (M : Mk) {T P R : Nat} (q : Cond → Bool) (hq : ∀ c, q c = false → (c.Kind = 6 → 0 ≤ M.ph c.Name ∧ M.ph c.Name < P) ∧ (c.Kind = 7 → 0 ≤ M.rl c.Name ∧ M.rl c.Name < R)) :
    ∀ (m : Nat) (c : Cond), dN c ≤ m → Gt c → (∀ s ∈ kM c, 0 ≤ M.tr s ∧ M.tr s < T) → anyC q c = false → wfN T P R (mkN M c)
  | 0, c, h, _, _, _ => by have := dN_pos c; omega
  | m + 1, c, h, g, ht, ha => by
    have hk : ∀ x ∈ c.Kids, wfN T P R (mkN M x) := fun x hx => by
      obtain ⟨j, hj⟩ := List.getElem?_of_mem hx
      exact mkN_wf M q hq m x (by have := (kid_ok g.ok hj).2.1; omega) (g.kid hx) (fun s hs => ht s (nms_kid hx hs)) (any_kid hx ha)
    have gk := g.gk
    have gs := g.self
    have hl := g.kids
    have qs := hq c (any_self ha)
    have nm : ∀ s ∈ nm1 c, 0 ≤ M.tr s ∧ M.tr s < T := fun s hs => ht s (by rw [nmsC_eq, List.mem_append]; exact Or.inl hs)
    have g1 := gs.fr
    have g2 := gs.n
    rw [mkN_eq]
    rcases kinds gs.k1 with e | e | e | e | e | e | e | e | e | e | e | e | e | e | e <;> rw [e] <;> simp only [mkK, Int.reduceEq, if_true, if_false, or_true, true_or, or_self]
    · exact ⟨by omega, by omega⟩
    · exact ⟨by omega, by omega⟩
    · exact nm c.Name (by unfold nm1; simp [e])
    · exact ⟨nm c.Name (by unfold nm1; simp [e]), nm c.Other (by unfold nm1; simp [e])⟩
    · have := gk.fr (by omega)
      exact ⟨nm c.Name (by unfold nm1; simp [e]), ⟨by omega, by omega⟩, by simp; omega⟩
    · exact qs.1 e
    · exact qs.2 e
    · obtain ⟨x, hx⟩ := bP (gk.o (by omega))
      rw [hx]; exact hk x (by rw [hx]; exact List.mem_cons_self)
    · exact ⟨wfL_mem.2 fun x hx => by obtain ⟨y, hy, rfl⟩ := List.mem_map.1 hx; exact hk y hy, by rw [List.length_map]; omega⟩
    · exact ⟨wfL_mem.2 fun x hx => by obtain ⟨y, hy, rfl⟩ := List.mem_map.1 hx; exact hk y hy, by rw [List.length_map]; omega⟩
    · obtain ⟨x, hx⟩ := bP (gk.o (by omega))
      have := gk.fr (by omega)
      rw [hx]; exact ⟨hk x (by rw [hx]; exact List.mem_cons_self), ⟨by omega, by omega⟩, ⟨by omega, by omega⟩, by simp; omega, by simp, rfl⟩
    · obtain ⟨x, hx⟩ := bP (gk.o (by omega))
      have := gk.fr (by omega)
      rw [hx]; exact ⟨hk x (by rw [hx]; exact List.mem_cons_self), ⟨by omega, by omega⟩, ⟨by omega, by omega⟩, by simp; omega, by simp, rfl⟩
    · obtain ⟨x, hx⟩ := bP (gk.o (by omega))
      have := gk.fr (by omega)
      have := gk.cn e
      rw [hx]; exact ⟨hk x (by rw [hx]; exact List.mem_cons_self), ⟨by omega, by omega⟩, ⟨by omega, by omega⟩, by simp; omega, by simp, rfl⟩
    · obtain ⟨x, y, hx⟩ := two_kids (gk.t e)
      rw [hx]; exact ⟨hk x (by rw [hx]; simp), hk y (by rw [hx]; simp), by omega, by omega⟩
    · obtain ⟨x, hx⟩ := bP (gk.o (by omega))
      rw [hx]; exact ⟨hk x (by rw [hx]; exact List.mem_cons_self), by omega, by omega⟩
theorem mkN_hn (M : Mk) : ∀ (m : Nat) (c : Cond), dN c ≤ m → Gt c → Hn (mkN M c) (mkN M c)
  | 0, c, h, _ => by have := dN_pos c; omega
  | m + 1, c, h, g => by
    have hk : ∀ x ∈ c.Kids, Hn (mkN M x) (mkN M x) := fun x hx => by
      obtain ⟨j, hj⟩ := List.getElem?_of_mem hx
      exact mkN_hn M m x (by have := (kid_ok g.ok hj).2.1; omega) (g.kid hx)
    have gk := g.gk
    have gs := g.self
    rw [mkN_eq]
    rcases kinds gs.k1 with e | e | e | e | e | e | e | e | e | e | e | e | e | e | e <;> rw [e] <;> simp only [mkK, Int.reduceEq, if_true, if_false, or_true, true_or, or_self]
    · exact .constant _
    · exact .constant _
    · exact .number _ _ _
    · exact .pair _ _ _ _ _
    · exact .steady _ _ _ _ _ (gk.st e) pw_nil (by simp) (by simp)
    · exact .phase _
    · exact .rule _
    · obtain ⟨x, hx⟩ := bP (gk.o (by omega))
      rw [hx]; exact .not _ _ (hk x (by rw [hx]; exact List.mem_cons_self))
    · refine .group _ _ _ rfl fun i k k' h1 h2 => ?_
      rw [h1] at h2; obtain rfl := Option.some.inj h2
      obtain ⟨y, hy, rfl⟩ := List.mem_map.1 (List.mem_of_getElem? h1); exact hk y hy
    · refine .group _ _ _ rfl fun i k k' h1 h2 => ?_
      rw [h1] at h2; obtain rfl := Option.some.inj h2
      obtain ⟨y, hy, rfl⟩ := List.mem_map.1 (List.mem_of_getElem? h1); exact hk y hy
    · obtain ⟨x, hx⟩ := bP (gk.o (by omega))
      rw [hx]; exact .count _ _ _ _ _ _ _ _ (hk x (by rw [hx]; exact List.mem_cons_self)) pw_nil
    · obtain ⟨x, hx⟩ := bP (gk.o (by omega))
      rw [hx]; exact .count _ _ _ _ _ _ _ _ (hk x (by rw [hx]; exact List.mem_cons_self)) pw_nil
    · obtain ⟨x, hx⟩ := bP (gk.o (by omega))
      rw [hx]; exact .count _ _ _ _ _ _ _ _ (hk x (by rw [hx]; exact List.mem_cons_self)) pw_nil
    · obtain ⟨x, y, hx⟩ := two_kids (gk.t e)
      rw [hx]; exact .since _ _ _ _ _ _ _ _ (hk x (by rw [hx]; simp)) (hk y (by rw [hx]; simp)) (aT _)
    · obtain ⟨x, hx⟩ := bP (gk.o (by omega))
      rw [hx]; exact .rises _ _ _ _ _ _ (hk x (by rw [hx]; exact List.mem_cons_self)) (aT _)
end Go.Lf
namespace Go.Lf
open Go.OB
theorem findO_ix {α:Type}(p:α→Bool): ∀(l:List α) (i:Nat),∃n,dP (fun i x=>if p x=true then some (some (i:Int)) else none) (some (-1)) l i=some n∧(l.any p=true→(i:Int)≤n∧n<i+l.length)
  | [],i=>⟨-1,rfl,fun h=>by simp at h⟩
  | x :: l,i=>by
    rw [dP]
    cases h:p x with
    | true=>exact ⟨i,rfl,fun _=>by rw [List.length_cons]; omega⟩
    | false=>
      obtain ⟨n,h1,h2⟩:=findO_ix p l (i+1)
      refine ⟨n,by simpa using h1,fun q=>?_⟩
      rw [List.any_cons,h,Bool.false_or] at q
      have:=h2 q
      rw [List.length_cons]; omega
def idxS (l:List Str)(s:Str):Int:=(Fae l s).getD (-1)
theorem Index_ok (l : List Str) (s : Str) (hl : l.length ≤ 9223372036854775807) : Fae l s = some (idxS l s) ∧ (s ∈ l → 0 ≤ idxS l s ∧ idxS l s < l.length) := by
  obtain ⟨n, h1, h2⟩ := findO_ix (fun y => decide (s = y)) l 0
  have e : Fae l s = some n := by
    unfold Fae
    simp only [zU, wK]
    unfold Fcr
    rw [← h1]
    refine wM l _ _ hl ?_ ?_
    · intro kk i x hx hi
      simp only [zU, zQ]
      rw [xZ hi, yP, wF hx, zQ, eH hi hl]
      cases decide (s = x) <;> rfl
    · intro kk; simp only [zU]; rw [wB]; rfl
  have e2 : idxS l s = n := by unfold idxS; rw [e]; rfl
  refine ⟨by rw [e2]; exact e, fun h => ?_⟩
  have := h2 (by rw [List.any_eq_true]; exact ⟨s, h, by simp⟩)
  rw [e2]; omega
def mkrM (k:fQ):Mk:=⟨fun s=>mget k.tracks s 0,fun i=>(at' k.dens i).getD 0,fun s=>idxS k.phases s,fun s=>mget k.rules s 0⟩
theorem rep_tots:(Arr.rep 3 0:Arr 3 Int)=tots []:=arr_ext rfl
theorem at_D {l:List Int}{i:Int}(h:0≤i∧i<l.length):at' l i=some ((at' l i).getD 0):=by
  obtain ⟨x,hx⟩:=at_ex h
  rw [hx]; rfl
theorem maker_R (k : fQ) (hp : k.phases.length ≤ 9223372036854775807) : ∀ (n : Nat) (c : Cond), dN c ≤ n → Gt c → (∀ s ∈ kM c, 0 ≤ mget k.tracks s 0 ∧ mget k.tracks s 0 < k.dens.length) → Fap n k c = some (mkN (mkrM k) c)
  | 0, c, h, _, _ => by have := dN_pos c; omega
  | n + 1, c, h, g, ht => by
    have hl := g.kids
    have gk := g.gk
    have gs := g.self
    have nm : ∀ s ∈ nm1 c, 0 ≤ mget k.tracks s 0 ∧ mget k.tracks s 0 < k.dens.length := fun s hs => ht s (by rw [nmsC_eq, List.mem_append]; exact Or.inl hs)
    have e1 : Fbe (Fap n) k c.Kids = some (c.Kids.map (mkN (mkrM k))) := by
      unfold Fbe Fds
      rw [zU]
      refine (congrArg (fun o => gB o fun g => some g) (dE (fun (i : Nat) => ((c.Kids.take i).map (mkN (mkrM k)), (i : Int))) c.Kids (some (c.Kids.map (mkN (mkrM k)))) (by omega) ?_ ?_)).trans (zQ _ _)
      · intro kk i x hx hi
        obtain ⟨k1, k2, k3⟩ := kid_ok g.ok hx
        have hm := List.mem_of_getElem? hx
        simp only [zU]
        rw [xZ hi, yP, wF hx, zQ, maker_R k hp n x (by omega) (g.kid hm) (fun s hs => ht s (nms_kid hm hs)), zQ, ap16 (by simp; omega), zQ, eH hi (by omega), tk_snoc hx, List.map_append]
        rfl
      · intro kk
        simp only [zU]
        rw [wB, yQ, List.take_length]
    show Fb6 (Fap n) k c = _
    unfold Fb6
    show gB (Fbe (Fap n) k c.Kids) _ = _
    rw [e1, zQ, mkN_eq]
    have at0 : ∀ (l : List Nd) (x : Nd), l = [x] → at' l 0 = some x := fun l x h => by rw [h]; rfl
    rcases kinds gs.k1 with e | e | e | e | e | e | e | e | e | e | e | e | e | e | e <;> rw [e] <;> simp only [zU, zQ, Int.reduceEq, decide_true, decide_false, yP, yQ, mkK, if_true, if_false, or_true, true_or, or_self]
    · rfl
    · have a := nm c.Name (by unfold nm1; simp [e])
      have b := nm c.Other (by unfold nm1; simp [e])
      rw [at_D a, at_D b]
      rfl
    · rfl
    · rw [(Index_ok k.phases c.Name hp).1]; rfl
    · rfl
    · obtain ⟨x, hx⟩ := bP (gk.o (by omega))
      rw [hx]; rfl
    · obtain ⟨x, hx⟩ := bP (gk.o (by omega))
      rw [hx, rep_tots]; rfl
    · obtain ⟨x, hx⟩ := bP (gk.o (by omega))
      rw [hx, rep_tots]; rfl
    · obtain ⟨x, hx⟩ := bP (gk.o (by omega))
      rw [hx, rep_tots]; rfl
    · obtain ⟨x, y, hx⟩ := two_kids (gk.t e)
      rw [hx]; rfl
    · obtain ⟨x, hx⟩ := bP (gk.o (by omega))
      rw [hx]; rfl
theorem maker_ok (k:fQ)(hp:k.phases.length≤9223372036854775807){c:Cond}(g:Gt c)(ht: ∀s ∈ kM c,0≤mget k.tracks s 0∧mget k.tracks s 0<k.dens.length):Fbk k c=some (mkN (mkrM k) c):=
  maker_R k hp FU c (Nat.le_of_lt (FU_gt (by have:=g.d; omega))) g ht
end Go.Lf
namespace Go.Lf
open Go.OB
def zipI:List Str→Nat→List (Str×Int)
  | [],_=>[]
  | s :: l,i=>(s,(i:Int)) :: zipI l (i+1)
theorem zipI_snoc (s:Str): ∀(l:List Str) (i:Nat),zipI (l++ [s]) i=zipI l i++ [(s,((i+l.length:Nat):Int))]
  | [],i=>rfl
  | x :: l,i=>by
    rw [List.cons_append,zipI,zipI,zipI_snoc s l (i+1),List.cons_append,List.length_cons,show i+1+l.length=i+(l.length+1) by omega]
theorem zipI_any (s:Str): ∀(l:List Str) (i:Nat),(zipI l i).any (fun p=>decide (p.1=s))=l.any (fun x=>decide (x=s))
  | [],_=>rfl
  | x :: l,i=>by rw [zipI,List.any_cons,List.any_cons,zipI_any s l (i+1)]
theorem mget_cons (k:Str)(v:Int)(l:List (Str×Int))(s:Str):mget ((k,v) :: l) s 0=if k=s then v else mget l s 0:=by
  unfold mget
  rw [List.find?_cons]
  by_cases h:k=s
  · simp [h]
  · simp [h]
theorem zipI_get (s : Str) : ∀ (l : List Str) (i : Nat), s ∈ l → ∃ j : Nat, mget (zipI l i) s 0 = ((i + j : Nat) : Int) ∧ l[j]? = some s
  | [], _, h => by simp at h
  | x :: l, i, h => by
    rw [zipI, mget_cons]
    by_cases c : x = s
    · subst c; exact ⟨0, by rw [if_pos rfl]; rfl, rfl⟩
    · obtain ⟨j, h1, h2⟩ := zipI_get s l (i + 1) ((List.mem_cons.1 h).resolve_left (Ne.symm c))
      exact ⟨j + 1, by rw [if_neg c, h1]; congr 1; omega, by simpa using h2⟩
def trI (l:List gZ)(s:Str):Int:=mget (zipI (l.map gZ.Name) 0) s 0
def densI (l:List gZ):List Int:=l.map fun t=>t.Series.Den
theorem trI_ok {l:List gZ}{s:Str}(h:s ∈ l.map gZ.Name):0≤trI l s∧trI l s<l.length:=by
  obtain ⟨j,h1,h2⟩:=zipI_get s (l.map gZ.Name) 0 h
  have:=(List.getElem?_eq_some_iff.1 h2).1
  rw [List.length_map] at this
  unfold trI; rw [h1]; omega
theorem newL1_ok (l : List gZ) (h : trkC l = 0) : Fcq l (l.length : Int) (0, ([] : List (Str × Int)), []) = some (zipI (l.map gZ.Name) 0, densI l) := by
  have hl := (good_trk h).1
  have pw := names_pw h
  unfold Fcq
  refine dE (fun (i : Nat) => ((i : Int), zipI ((l.take i).map gZ.Name) 0, densI (l.take i))) l (some (zipI (l.map gZ.Name) 0, densI l)) (by omega) ?_ ?_
  · intro k i x hx hi
    have na : (zipI ((l.take i).map gZ.Name) 0).any (fun p => decide (p.1 = x.Name)) = false := by
      rw [zipI_any, List.any_eq_false]
      intro y hy
      obtain ⟨z, hz, rfl⟩ := List.mem_map.1 hy
      obtain ⟨j, hj⟩ := List.getElem?_of_mem hz
      rw [List.getElem?_take] at hj
      split at hj
      · rename_i c
        simpa using names_ne h hj hx c
      · cases hj
    simp only [zU]
    rw [xZ hi, yP, wF hx, zQ, mset_new _ _ na, ap8 (by unfold densI; simp; omega), zQ, eH hi (by omega), tk_snoc hx, List.map_append, List.map_singleton, zipI_snoc]
    unfold densI
    rw [List.map_append, List.length_map, List.length_take, Nat.zero_add, Nat.min_eq_left (by omega)]
    rfl
  · intro k
    simp only [zU]
    rw [wB, yQ, List.take_length]
def MkR (r:Rules)(l:List gZ)(i:Nat):Mk:=⟨trI l,fun i=>(at' (densI l) i).getD 0,fun s=>idxS r.Phases s,fun s=>mget (zipI ((r.Rules.take i).map aY.Name) 0) s 0⟩
def rlN (r:Rules)(l:List gZ)(i:Nat)(x:aY):Nd:=mkN (MkR r l i) x.When
def mvN (r:Rules)(l:List gZ)(m:MoveT):fB:=fB.mk (idxS r.Phases m.From) (idxS r.Phases m.To) (mkN (MkR r l 0) m.When)
def dI (r:Rules)(l:List gZ):gY:=
  gY.mk r.Phases (l.length:Int) (r.Moves.map (mvN r l)) (r.Rules.mapIdx (rlN r l)) ((List.replicate r.Phases.length false).set 0 true)
structure GB (r:Rules)(l:List gZ):Prop where
  ok:okR r
  c:chk r=some 0
  t:trkC l=0
  n: ∀s ∈ allNm r,s ∈ l.map gZ.Name
theorem GB.g {r:Rules}{l:List gZ}(h:GB r l):Gr' r:=chk_good h.ok h.c
theorem nm_mv {r:Rules}{m:MoveT}(hm:m ∈ r.Moves){s:Str}(hs:s ∈ kM m.When):s ∈ allNm r:=by
  unfold allNm
  rw [List.mem_append,List.mem_flatMap,List.mem_flatMap]
  exact Or.inl ⟨m,hm,hs⟩
theorem nm_rl {r:Rules}{x:aY}(hm:x ∈ r.Rules){s:Str}(hs:s ∈ kM x.When):s ∈ allNm r:=by
  unfold allNm
  rw [List.mem_append,List.mem_flatMap,List.mem_flatMap]
  exact Or.inr ⟨x,hm,hs⟩
theorem maker_at {r:Rules}{l:List gZ}(h:GB r l)(i:Nat){c:Cond}(g:Gt c)(hn: ∀s ∈ kM c,s ∈ allNm r):Fbk (fQ.mk (zipI (l.map gZ.Name) 0) (densI l) r.Phases (zipI ((r.Rules.take i).map aY.Name) 0)) c=some (mkN (MkR r l i) c):=by
  have hp:=h.g.p
  refine maker_ok _ (by show r.Phases.length≤_; omega) g fun s hs=>?_
  have:=trI_ok (h.n s (hn s hs))
  show 0≤trI l s∧trI l s<(densI l).length
  unfold densI
  rw [List.length_map]; exact this
theorem newL2_ok {r : Rules} {l : List gZ} (h : GB r l) : Fcu r (zipI (l.map gZ.Name) 0) (densI l) (r.Moves.length : Int) (0, []) = some (r.Moves.map (mvN r l)) := by
  have g := h.g
  have hm := g.m
  have hp := g.p
  unfold Fcu
  refine dE (fun (i : Nat) => ((i : Int), (r.Moves.take i).map (mvN r l))) r.Moves (some (r.Moves.map (mvN r l))) (by omega) ?_ ?_
  · intro k i x hx hi
    have mx := List.mem_of_getElem? hx
    have e := maker_at h 0 (g.mg x mx).1 fun s hs => nm_mv mx hs
    rw [List.take_zero] at e
    change Fbk (fQ.mk (zipI (l.map gZ.Name) 0) (densI l) r.Phases []) x.When = _ at e
    have a32 : app' 32 ((r.Moves.take i).map (mvN r l)) [mvN r l x] = some ((r.Moves.take i).map (mvN r l) ++ [mvN r l x]) := by
      unfold app'
      rw [if_pos ⟨by rw [maxLen_eq]; simp; omega, by simp; omega⟩]
    simp only [zU]
    rw [xZ hi, yP, wF hx, zQ, (Index_ok r.Phases x.From (by omega)).1, (Index_ok r.Phases x.To (by omega)).1, zQ, zQ, e, zQ]
    show gB (app' 32 ((r.Moves.take i).map (mvN r l)) [mvN r l x]) _ = _
    rw [a32, zQ, eH hi (by omega), tk_snoc hx, List.map_append]
    rfl
  · intro k
    simp only [zU]
    rw [wB, yQ, List.take_length]
theorem mapIdx_snoc {α β:Type}(f:Nat→α→β)(l:List α)(x:α):(l++ [x]).mapIdx f=l.mapIdx f++ [f l.length x]:=by
  rw [List.mapIdx_append]; simp
theorem newL3_ok {r : Rules} {l : List gZ} (h : GB r l) : Fc5 r (zipI (l.map gZ.Name) 0) (densI l) (r.Rules.length : Int) (0, ([] : List (Str × Int)), []) = some (r.Rules.mapIdx (rlN r l)) := by
  have g := h.g
  have hl := g.l
  have hr := chk_rl h.c
  unfold Fc5
  refine dE (fun (i : Nat) => ((i : Int), zipI ((r.Rules.take i).map aY.Name) 0, (r.Rules.take i).mapIdx (rlN r l))) r.Rules (some (r.Rules.mapIdx (rlN r l))) (by omega) ?_ ?_
  · intro k i x hx hi
    have mx := List.mem_of_getElem? hx
    have e := maker_at h i (g.lg x mx).1 fun s hs => nm_rl mx hs
    have na : (zipI ((r.Rules.take i).map aY.Name) 0).any (fun p => decide (p.1 = x.Name)) = false := by
      rw [zipI_any, List.any_map]
      exact (hr i x hx).1
    have hlen : (r.Rules.take i).length = i := by rw [List.length_take]; omega
    simp only [zU]
    rw [xZ hi, yP, wF hx, zQ, e, zQ, ap16 (by simp; omega), zQ, mset_new _ _ na, eH hi (by omega), tk_snoc hx, mapIdx_snoc, List.map_append, List.map_singleton, zipI_snoc, hlen, List.length_map, hlen, Nat.zero_add]
    rfl
  · intro k
    simp only [zU]
    rw [wB, yQ, List.take_length]
theorem cloneS_eq (l:List Str)(h:l.length≤1000000):Fck l=some l:=by
  unfold Fck
  have e:app' 16 ([]:List Str) l=some l:=by
    unfold app'
    rw [if_pos ⟨by rw [maxLen_eq]; simp; omega,by simp; omega⟩,List.nil_append]
  rw [e]
  cases l with
  | nil=>rfl
  | cons a l=>rfl
theorem newWatch_eq {r:Rules}{l:List gZ}(h:GB r l):Faq r l=some (dI r l):=by
  have hp:=h.g.p
  unfold Faq
  simp only [zU]
  rw [newL1_ok l h.t,zQ]
  dsimp only
  rw [cloneS_eq _ (by omega),zQ]
  have mk:make' 1 (r.Phases.length:Int) false=some (List.replicate r.Phases.length false):=by
    unfold make'
    rw [if_pos ⟨by omega,by omega,by omega⟩,Int.toNat_natCast]
  rw [mk,zQ,newL2_ok h,newL3_ok h]
  simp only [zQ]
  have e:(gK (decide (0<(r.Phases.length:Int))) (gB (at' (List.replicate r.Phases.length false) 0) fun x632=>gB (set' (List.replicate r.Phases.length false) 0 true) fun x643=>some x643) (some (List.replicate r.Phases.length false)))=some ((List.replicate r.Phases.length false).set 0 true):=by
    cases hP:r.Phases.length with
    | zero=>rfl
    | succ n=>
      rw [decide_eq_true (by omega),yP]
      obtain ⟨x,hx⟩:=at_ex (l:=List.replicate (n+1) false) (i:=0) ⟨by omega,by simp⟩
      rw [hx,zQ,set_ok ⟨by omega,by simp⟩]
      rfl
  rw [e,zQ]
  rfl
end Go.Lf
namespace Go.Lf
open Go.OB
theorem mv_ok {r : Rules} (h : chk r = some 0) {m : MoveT} (hm : m ∈ r.Moves) : m.From ∈ r.Phases ∧ m.To ∈ r.Phases ∧ anyC pMv m.When = false := by
  unfold chk at h
  split at h
  · exact absurd (Option.some.inj h) (by decide)
  · obtain ⟨h1, h2⟩ := bI (phE r.Phases) _ _ _ h
    obtain ⟨h3, h4⟩ := bI (fun _ => mvE r) _ _ _ h1
    obtain ⟨i, hi⟩ := List.getElem?_of_mem hm
    have := h4 i m hi
    unfold mvE at this
    split at this
    · rename_i c
      split at this
      · split at this
        · exact absurd this (by decide)
        · rename_i d
          have a : ∀ {s : Str}, (r.Phases.any fun y => decide (s = y)) = true → s ∈ r.Phases := by
            intro s hs
            rw [List.any_eq_true] at hs
            obtain ⟨y, h1, h2⟩ := hs
            rw [of_decide_eq_true h2]; exact h1
          exact ⟨a c.1, a c.2, by simpa using d⟩
      · rename_i d; exact absurd this d
    · exact absurd this (by decide)
theorem idx_ok {r:Rules}{l:List gZ}(h:GB r l){s:Str}(hs:s ∈ r.Phases):0≤idxS r.Phases s∧idxS r.Phases s<r.Phases.length:=(Index_ok r.Phases s (by have:=h.g.p; omega)).2 hs
theorem nmd_mem {l:List aY}{s:Str}(h:nmd l s=true):s ∈ l.map aY.Name:=by
  unfold nmd at h
  rw [List.any_eq_true] at h
  obtain ⟨y,h1,h2⟩:=h
  rw [← of_decide_eq_true h2]
  exact List.mem_map_of_mem h1
theorem rl_named {r : Rules} (i : Nat) {c : Cond} (h : pRl r i c = false) : (c.Kind = 6 → c.Name ∈ r.Phases) ∧ (c.Kind = 7 → c.Name ∈ (r.Rules.take i).map aY.Name) := by
  unfold pRl at h
  rw [Bool.or_eq_false_iff] at h
  refine ⟨fun e => ?_, fun e => ?_⟩
  · have h1 := h.1
    rw [e, decide_eq_true rfl, Bool.true_and, Bool.not_eq_false'] at h1
    rw [List.any_eq_true] at h1
    obtain ⟨y, h2, h3⟩ := h1
    rw [of_decide_eq_true h3]; exact h2
  · have h1 := h.2
    rw [e, decide_eq_true rfl, Bool.true_and, Bool.not_eq_false'] at h1
    exact nmd_mem h1
theorem newW_wf {r : Rules} {l : List gZ} (h : GB r l) : WfW (dI r l) l.length r.Phases.length := by
  have g := h.g
  have hp := g.p
  have hr := chk_rl h.c
  have tr : ∀ s ∈ allNm r, 0 ≤ trI l s ∧ trI l s < l.length := fun s hs => trI_ok (h.n s hs)
  refine ⟨rfl, by show ((List.replicate _ _).set _ _).length = _; simp, by omega, rfl, by show (r.Moves.map _).length ≤ _; have := g.m; simp; omega, by show (r.Rules.mapIdx _).length ≤ _; have := g.l; simp; omega, fun x hx => ?_, fun i k hk => ?_⟩
  · obtain ⟨m, hm, rfl⟩ := List.mem_map.1 hx
    obtain ⟨m1, m2, m3⟩ := mv_ok h.c hm
    have gm := (g.mg m hm).1
    have d := mkN_dp (MkR r l 0) m.When
    have gd := gm.d
    refine ⟨idx_ok h m2, ?_, by show dpN (mkN (MkR r l 0) m.When) ≤ _; omega⟩
    refine mkN_wf (MkR r l 0) pMv (fun c hc => ?_) (dN m.When) m.When (Nat.le_refl _) gm (fun s hs => tr s (nm_mv hm hs)) m3
    unfold pMv at hc
    constructor
    · intro e; rw [e] at hc; simp at hc
    · intro e; rw [e] at hc; simp at hc
  · change (r.Rules.mapIdx (rlN r l))[i]? = some k at hk
    rw [List.getElem?_mapIdx, Option.map_eq_some_iff] at hk
    obtain ⟨x, hx, rfl⟩ := hk
    have mx := List.mem_of_getElem? hx
    have gx := (g.lg x mx).1
    have d := mkN_dp (MkR r l i) x.When
    have gd := gx.d
    refine ⟨?_, by show dpN (mkN (MkR r l i) x.When) ≤ _; omega⟩
    refine mkN_wf (MkR r l i) (pRl r i) (fun c hc => ?_) (dN x.When) x.When (Nat.le_refl _) gx (fun s hs => tr s (nm_rl mx hs)) (hr i x hx).2
    obtain ⟨q1, q2⟩ := rl_named i hc
    refine ⟨fun e => idx_ok h (q1 e), fun e => ?_⟩
    obtain ⟨j, h1, h2⟩ := zipI_get c.Name ((r.Rules.take i).map aY.Name) 0 (q2 e)
    have := (List.getElem?_eq_some_iff.1 h2).1
    rw [List.length_map, List.length_take] at this
    show 0 ≤ mget (zipI ((r.Rules.take i).map aY.Name) 0) c.Name 0 ∧ mget (zipI ((r.Rules.take i).map aY.Name) 0) c.Name 0 < (i : Int)
    rw [h1]; omega
end Go.Lf
namespace Go.Lf
open Go.OB
theorem containsB_eq (l : List gZ) (s : Str) (hl : l.length ≤ 9223372036854775807) : Fcm l s = some (l.any fun t => decide (t.Name = s)) := by
  obtain ⟨n, h1, h2⟩ := idx_any (fun (_ : Nat) (y : gZ) => decide (y.Name = s)) l 0
  have e : Fbz l s = some n := by
    unfold Fbz
    simp only [zU, wK]
    unfold Fdm
    rw [← h1]
    refine wM l _ _ hl ?_ ?_
    · intro kk i x hx hi
      unfold Fcy
      simp only [zU, zQ]
      rw [xZ hi, yP, wF hx, zQ, eH hi hl]
      cases decide (x.Name = s) <;> rfl
    · intro kk; simp only [zU]; rw [wB]; rfl
  have a : ∀ (l : List gZ) (i : Nat), aS (fun _ y => decide (y.Name = s)) l i = l.any fun t => decide (t.Name = s) := by
    intro l
    induction l with
    | nil => intro i; rfl
    | cons x l ih => intro i; rw [aS, ih, List.any_cons]
  unfold Fcm
  rw [e]
  simp only [zU, zQ, h2, a]
def bothE (r:Rules)(l:List gZ):Int:=
  if (chk r).getD 0≠0 then (chk r).getD 0 else if trkC l≠0 then trkC l else if (trkN r).all (fun s=>l.any fun t=>decide (t.Name=s))=true then 0 else 4
theorem tracksIn_eq' {r:Rules}(g:Gr' r):Fbn r=some (trkN r):=by
  rw [tracksIn_eq g,tracks_same]; rfl
theorem checkBoth_eq {r : Rules} {l : List gZ} (ok : okR r) (hl : okL okTrack l) : Fbb r l = some (bothE r l) := by
  obtain ⟨e, he⟩ := chk_some r
  unfold Fbb bothE
  rw [Check_eq r ok, he, zQ]
  simp only [zU, Option.getD_some, xQ]
  by_cases z : e = 0
  · subst z
    have g := chk_good ok he
    rw [if_neg (by simp), if_neg (by simp), CheckTracks_eq l hl, trkF_eq, zQ]
    by_cases y : trkC l = 0
    · rw [if_neg (by simpa using y), if_neg (by simpa using y), wK, tracksIn_eq' g, zQ]
      have hn := trkN_len g
      unfold Fdo
      rw [wM (trkN r) (fun _ s => if (l.any fun t => decide (t.Name = s)) = true then none else some (some 4)) (some 0) (by omega) ?_ ?_]
      · have key : ∀ (ls : List Str) (i : Nat), dP (fun _ s => if (l.any fun t => decide (t.Name = s)) = true then none else some (some (4 : Int))) (some 0) ls i = some (if ls.all (fun s => l.any fun t => decide (t.Name = s)) = true then 0 else 4) := by
          intro ls
          induction ls with
          | nil => intro i; rfl
          | cons s ls ih =>
            intro i
            rw [dP, List.all_cons]
            cases (l.any fun t => decide (t.Name = s))
            · rfl
            · simpa using ih (i + 1)
        rw [key]
      · intro kk i x hx hi
        simp only [zU]
        rw [xZ hi, yP, wF hx, zQ, containsB_eq l x hl.1, zQ, eH hi (by omega)]
        cases (l.any fun t => decide (t.Name = x)) <;> rfl
      · intro kk
        simp only [zU]
        rw [wB, yQ]
    · rw [if_pos y, if_pos y]
  · rw [if_pos z, if_pos z]
theorem both_gb {r : Rules} {l : List gZ} (ok : okR r) (h : bothE r l = 0) : GB r l := by
  obtain ⟨e, he⟩ := chk_some r
  unfold bothE at h
  rw [he] at h
  simp only [Option.getD_some] at h
  by_cases z : e = 0
  · subst z
    rw [if_neg (by simp)] at h
    by_cases y : trkC l = 0
    · rw [if_neg (by simpa using y)] at h
      split at h
      · rename_i a
        refine ⟨ok, he, y, fun s hs => ?_⟩
        rw [List.all_eq_true] at a
        have m : s ∈ trkN r := by unfold trkN; rw [puts_mem]; exact Or.inr hs
        have := a s m
        rw [List.any_eq_true] at this
        obtain ⟨t, h1, h2⟩ := this
        rw [← of_decide_eq_true h2]
        exact List.mem_map_of_mem h1
      · exact absurd h (by decide)
    · rw [if_pos y] at h; exact absurd h y
  · rw [if_pos z] at h; exact absurd h z
def spanE (a b:Int):Int:=if a<0∨b<a∨4194304≤b then 9 else if 20000<b - a+1 then 3 else 0
theorem span_ok {a b : Int} (h : spanE a b = 0) : 0 ≤ a ∧ a ≤ b ∧ b ≤ 4194303 ∧ b - a + 1 ≤ 20000 := by
  unfold spanE at h
  split at h
  · exact absurd h (by decide)
  · split at h
    · exact absurd h (by decide)
    · omega
def evE (r:Rules)(l:List gZ)(a b:Int):Int:=if bothE r l≠0 then bothE r l else spanE a b
def phL:List Bool→List Str→List Str
  | true :: bs,s :: ss=>s :: phL bs ss
  | false :: bs,_ :: ss=>phL bs ss
  | _,_=>[]
theorem phL_snoc (b:Bool)(s:Str): ∀(bs:List Bool) (ss:List Str),bs.length=ss.length→phL (bs++ [b]) (ss++ [s])=phL bs ss++if b=true then [s] else []
  | [],[],_=>by cases b<;>rfl
  | [],_ :: _,h=>by simp at h
  | _ :: _,[],h=>by simp at h
  | true :: bs,x :: ss,h=>by
    rw [List.cons_append,List.cons_append,phL,phL,phL_snoc b s bs ss (by simpa using h),List.cons_append]
  | false :: bs,x :: ss,h=>by
    rw [List.cons_append,List.cons_append,phL,phL,phL_snoc b s bs ss (by simpa using h)]
theorem phL_mem : ∀ (bs : List Bool) (ss : List Str) (s : Str), s ∈ phL bs ss ↔ ∃ i : Nat, bs[i]? = some true ∧ ss[i]? = some s
  | [], ss, s => by simp [phL]
  | b :: bs, [], s => by cases b <;> simp [phL]
  | true :: bs, x :: ss, s => by
    rw [phL, List.mem_cons, phL_mem bs ss s]
    constructor
    · rintro (rfl | ⟨i, h1, h2⟩)
      · exact ⟨0, rfl, rfl⟩
      · exact ⟨i + 1, by simpa using h1, by simpa using h2⟩
    · rintro ⟨i, h1, h2⟩
      cases i with
      | zero => left; simpa using h2.symm
      | succ i => right; exact ⟨i, by simpa using h1, by simpa using h2⟩
  | false :: bs, x :: ss, s => by
    rw [phL, phL_mem bs ss s]
    constructor
    · rintro ⟨i, h1, h2⟩; exact ⟨i + 1, by simpa using h1, by simpa using h2⟩
    · rintro ⟨i, h1, h2⟩
      cases i with
      | zero => simp at h1
      | succ i => exact ⟨i, by simpa using h1, by simpa using h2⟩
theorem phL_len: ∀(bs:List Bool) (ss:List Str),(phL bs ss).length≤ss.length
  | [],ss=>by simp [phL]
  | b :: bs,[]=>by cases b<;>simp [phL]
  | true :: bs,x :: ss=>by rw [phL,List.length_cons,List.length_cons]; have:=phL_len bs ss; omega
  | false :: bs,x :: ss=>by rw [phL,List.length_cons]; have:=phL_len bs ss; omega
theorem Phase_eq {w : gY} {T P : Nat} (h : WfW w T P) : Fah w = some (phL w.possible w.phases) := by
  have hb := h.pb
  have h1 := h.po
  have h2 := h.ph
  unfold Fah Fee
  rw [zU]
  refine (congrArg (fun o => gB o fun g => some g) (dE (fun (i : Nat) => (phL (w.possible.take i) (w.phases.take i), (i : Int))) w.possible (some (phL w.possible w.phases)) (by omega) ?_ ?_)).trans (zQ _ _)
  · intro k i x hx hi
    have hi2 : i < w.phases.length := by omega
    have hs : w.phases[i]? = some w.phases[i] := List.getElem?_eq_getElem hi2
    have hl := phL_len (w.possible.take i) (w.phases.take i)
    have ht : (w.phases.take i).length ≤ w.phases.length := by rw [List.length_take]; omega
    simp only [zU]
    rw [xZ hi, yP, wF hx, wF hs, eH hi (by omega), tk_snoc hx, tk_snoc hs, phL_snoc _ _ _ _ (by simp; omega)]
    simp only [zQ]
    cases x
    · simp [gK, gB]
    · rw [yP, ap16 (by omega), zQ]; rfl
  · intro k
    simp only [zU]
    rw [wB, yQ, List.take_length, List.take_of_length_le (by omega)]
end Go.Lf
namespace Go.Lf
open Go.OB
def tel (l:List gZ)(a:Int)(k:Nat):List fO:=l.map (inT (a+(k:Int)))
theorem tel_len (l:List gZ)(a:Int)(k:Nat):(tel l a k).length=l.length:=by unfold tel; rw [List.length_map]
def spn (a b:Int):Nat:=(b - a+1).toNat
def cols (m:Nat)(rows:List (List Int)):List (List Int):=(List.range m).map fun i=>rows.map fun row=>row.getD i 0
theorem cols_get {m:Nat}{rows:List (List Int)}{i:Nat}(h:i<m):(cols m rows)[i]? =some (rows.map fun row=>row.getD i 0):=by
  unfold cols
  rw [List.getElem?_map,List.getElem?_range h]; rfl
theorem cols_len (m:Nat)(rows:List (List Int)):(cols m rows).length=m:=by unfold cols; simp
theorem EvL_ok (v : List Int) (ph : List Str) (m : Nat) (rows : List (List Int)) (hv : v.length = m) (hm : m ≤ 1000) (hr : rows.length ≤ 100000) : Fbj v ph (cols m rows) = some (cols m (rows ++ [v])) := by
  unfold Fbj Fd6
  rw [zU]
  have st : ∀ i, i < m → (cols m (rows ++ [v])).take i ++ (cols m rows).drop i = (cols m (rows ++ [v])).take i ++ (rows.map fun row => row.getD i 0) :: (cols m rows).drop (i + 1) := fun i hi => by
    rw [List.drop_eq_getElem_cons (by rw [cols_len]; exact hi)]
    have := cols_get (rows := rows) hi
    rw [List.getElem?_eq_getElem (by rw [cols_len]; exact hi)] at this
    rw [Option.some.inj this]
  refine (dE (fun (i : Nat) => ((i : Int), (cols m (rows ++ [v])).take i ++ (cols m rows).drop i)) v (some (cols m (rows ++ [v]))) (by omega) ?_ ?_)
  · intro k i x hx hi
    have hlen : ((cols m (rows ++ [v])).take i).length = i := by rw [List.length_take, cols_len]; omega
    have hx2 : v.getD i 0 = x := by rw [List.getD_eq_getElem?_getD, hx]; rfl
    have nw : (cols m (rows ++ [v]))[i]? = some ((rows.map fun row => row.getD i 0) ++ [x]) := by
      rw [cols_get (by omega), List.map_append, List.map_singleton, hx2]
    simp only [zU]
    rw [xZ hi, yP, wF hx, st i (by omega), at_mid _ _ _ i hlen]
    simp only [zQ]
    rw [ap8 (by rw [List.length_map]; omega), zQ, set_at _ _ _ _ i hlen, zQ, eH hi (by omega), tk_snoc nw, List.append_assoc]
    rfl
  · intro k
    simp only [zU]
    rw [hv, wB, yQ, List.take_of_length_le (by rw [cols_len]; exact Nat.le_refl _), List.drop_eq_nil_of_le (by rw [cols_len]; exact Nat.le_refl _), List.append_nil]
theorem frame_ok {r:Rules}{l:List gZ}(h:GB r l){a:Int}(k:Nat)(h0:0≤a)(h1:a+k≤4194303):
    Fan l (a+(k:Int))=some (tel l a k)∧Fag (runT (tel l a) (dI r l) k).2 (tel l a k)=some (nxt (tel l a k) (runT (tel l a) (dI r l) k).2)∧
    Fah (nxt (tel l a k) (runT (tel l a) (dI r l) k).2).2=some (phL (runT (tel l a) (dI r l) (k+1)).2.possible r.Phases):=by
  have w0:=newW_wf h
  have wk:=runT_wf (f:=tel l a) w0 (tel_len l a) k
  obtain ⟨n1,n2,n3,n4⟩:=next_ok wk (tel_len l a k)
  refine ⟨inputs_eq l _ h.t (by omega) (by omega),n1,?_⟩
  rw [Phase_eq n2]
  have e: ∀n,(runT (tel l a) (dI r l) n).2.phases=r.Phases:=by
    intro n
    induction n with
    | zero=>rfl
    | succ n ih=>exact ih
  have e1:=e (k+1)
  change (nxt (tel l a k) (runT (tel l a) (dI r l) k).2).2.phases=_ at e1
  rw [e1]; rfl
theorem run_rl {r:Rules}{l:List gZ}(f:Nat→List fO): ∀n,(runT f (dI r l) n).2.rules.length=r.Rules.length
  | 0=>by show (r.Rules.mapIdx _).length=_; simp
  | n+1=>by
    show (nxt (f n) (runT f (dI r l) n).2).2.rules.length=_
    rw [(aV _ _).2,run_rl f n]
theorem span_bind (a b : Int) (K : Bool → Option (Int × List (List Int))) : (gB (gJ (decide (a < 0)) fun x75 => gB (gK x75 (some true) (gJ (decide (b < a)) fun x81 => some x81)) fun j77 => gK j77 (some true) (gJ (decide (4194304 ≤ b)) fun x84 => some x84)) K) = K (decide (a < 0 ∨ b < a ∨ 4194304 ≤ b)) := by
  simp only [zU]
  by_cases h1 : a < 0
  · rw [decide_eq_true h1, decide_eq_true (Or.inl h1)]; rfl
  · rw [decide_eq_false h1]
    by_cases h2 : b < a
    · rw [decide_eq_true h2, decide_eq_true (Or.inr (Or.inl h2))]; rfl
    · rw [decide_eq_false h2]
      by_cases h3 : 4194304 ≤ b
      · rw [decide_eq_true h3, decide_eq_true (Or.inr (Or.inr h3))]; rfl
      · rw [decide_eq_false h3, decide_eq_false (by omega)]; rfl
theorem wr_span {a b:Int}(h:0≤a∧a≤b∧b≤4194303):IntKind.i64.wrap (IntKind.i64.wrap (b - a)+1)=b - a+1:=by
  rw [wrap_i64 (n:=b - a) (by omega) (by omega),wrap_i64 (by omega) (by omega)]
def evV (r:Rules)(l:List gZ)(a b:Int):List (List Int):=cols r.Rules.length (runT (tel l a) (dI r l) (spn a b)).1
theorem evalL_ok {r : Rules} {l : List gZ} (h : GB r l) {a b : Int} (hs : spanE a b = 0) :
    Fdj l b (a, cols r.Rules.length [], (dI r l).phases, (dI r l).tracks, (dI r l).moves, (dI r l).rules, (dI r l).possible) = some (evV r l a b) := by
  obtain ⟨s1, s2, s3, s4⟩ := span_ok hs
  have hl := h.g.l
  have hn : spn a b = (b - a + 1).toNat := rfl
  have q := dE (β := List (List Int)) (γ := Int × List (List Int) × List Str × Int × List fB × List Nd × List Bool) (fun i => (a + (i : Int), cols r.Rules.length (runT (tel l a) (dI r l) i).1, (runT (tel l a) (dI r l) i).2.phases, (runT (tel l a) (dI r l) i).2.tracks, (runT (tel l a) (dI r l) i).2.moves, (runT (tel l a) (dI r l) i).2.rules, (runT (tel l a) (dI r l) i).2.possible)) (List.replicate (spn a b) ()) (some (evV r l a b)) (by simp; omega)
    (body := fun k619 ⟨g596, g598, g602, g604, g606, g610, g614⟩ =>
  gJ (decide (g596 ≤ b)) fun x628 =>
  gK x628
  (gB (Fan l g596) fun x678 =>
  gB (Fag (gY.mk g602 g604 g606 g610 g614) x678) fun ⟨x688, x689⟩ =>
  gB (Fah (gY.mk x689.phases x689.tracks x689.moves x689.rules x689.possible)) fun x709 =>
  gB (Fbj x688 x709 g598) fun x717 =>
  gJ (IntKind.i64.wrap (g596 + 1)) fun x724 =>
  k619 (x724, x717, x689.phases, x689.tracks, x689.moves, x689.rules, x689.possible))
  (some g598)) (fun k i x hx hi => ?_) (fun k => ?_)
  · rw [show a + ((0 : Nat) : Int) = a by simp] at q
    exact q
  · rw [List.length_replicate] at hi
    obtain ⟨f1, f2, f3⟩ := frame_ok h (a := a) i s1 (by omega)
    simp only [zU]
    rw [decide_eq_true (by omega : a + (i : Int) ≤ b), yP, f1, zQ]
    show gB (Fag (runT (tel l a) (dI r l) i).2 (tel l a i)) _ = _
    rw [f2, zQ]
    show gB (Fah (nxt (tel l a i) (runT (tel l a) (dI r l) i).2).2) _ = _
    rw [f3, zQ, EvL_ok _ _ _ _ (by rw [(aV _ _).1, run_rl]) (by omega) (by rw [runT_len]; omega), zQ, wrap_i64 (by omega) (by omega)]
    rw [show a + (i : Int) + 1 = a + ((i + 1 : Nat) : Int) by omega]
    rfl
  · rw [List.length_replicate]
    simp only [zU]
    rw [decide_eq_false (by omega : ¬ a + ((spn a b : Nat) : Int) ≤ b), yQ]
    rfl
theorem Evaluate_eq {r : Rules} {l : List gZ} (ok : okR r) (hl : okL okTrack l) (hr : r.Rules.length ≤ 2000000) {a b : Int} (ha : i64 a) (hb : i64 b) : Fa9 r l a b = some (if evE r l a b = 0 then (evV r l a b, 0) else ([], evE r l a b)) := by
  have mk : make' 24 (r.Rules.length : Int) ([] : List Int) = some (cols r.Rules.length []) := by
    unfold make'
    rw [if_pos ⟨by omega, by omega, by omega⟩, Int.toNat_natCast]
    unfold cols
    congr 1
    apply List.ext_getElem?
    intro i
    rw [List.getElem?_replicate, List.getElem?_map]
    by_cases c : i < r.Rules.length
    · rw [if_pos c, List.getElem?_range c]; rfl
    · rw [if_neg c, List.getElem?_eq_none (by simp; omega)]; rfl
  unfold Fa9
  simp only [zU]
  rw [mk, zQ]
  have key : ∃ z, Fcj r l a b (cols r.Rules.length []) = some (evE r l a b, z) ∧ (evE r l a b = 0 → z = evV r l a b) := by
    unfold Fcj
    rw [checkBoth_eq ok hl, zQ]
    simp only [zU]
    unfold evE
    by_cases z : bothE r l = 0
    · have g := both_gb ok z
      rw [decide_eq_false (by simpa using z), yQ, if_neg (by simpa using z)]
      have sb := span_bind a b (fun g72 => gK g72 (some (9, cols r.Rules.length [])) (gK (decide (20000 < IntKind.i64.wrap (IntKind.i64.wrap (b - a) + 1))) (some (3, cols r.Rules.length [])) (gB (Faq r l) fun x110 => gB (Fdj l b (a, cols r.Rules.length [], x110.phases, x110.tracks, x110.moves, x110.rules, x110.possible)) fun g362 => some (0, g362))))
      simp only [zU] at sb
      rw [sb]
      unfold spanE
      by_cases c : a < 0 ∨ b < a ∨ 4194304 ≤ b
      · rw [decide_eq_true c, yP, if_pos c]
        exact ⟨_, rfl, fun h => absurd h (by decide)⟩
      · rw [decide_eq_false c, yQ, if_neg c, wr_span (by omega)]
        by_cases d : 20000 < b - a + 1
        · rw [decide_eq_true d, yP, if_pos d]
          exact ⟨_, rfl, fun h => absurd h (by decide)⟩
        · rw [decide_eq_false d, yQ, if_neg d, newWatch_eq g, zQ, evalL_ok g (by unfold spanE; rw [if_neg c, if_neg d]), zQ]
          exact ⟨_, rfl, fun _ => rfl⟩
    · rw [decide_eq_true (by simpa using z), yP, if_pos (by simpa using z)]
      exact ⟨_, rfl, fun h => absurd h z⟩
  obtain ⟨z, h1, h2⟩ := key
  rw [h1, zQ]
  simp only []
  by_cases c : evE r l a b = 0
  · rw [h2 c, c, if_pos rfl]; rfl
  · rw [decide_eq_true (by simpa using c), yP, if_neg c]
def phsT (r:Rules)(l:List gZ)(a:Int)(k:Nat):List Str:=phL (runT (tel l a) (dI r l) (k+1)).2.possible r.Phases
def evP (r:Rules)(l:List gZ)(a b:Int):List (List Str):=(List.range (spn a b)).map (phsT r l a)
theorem evalP_ok {r : Rules} {l : List gZ} (h : GB r l) {a b : Int} (hs : spanE a b = 0) :
    Fdi l b (a, [], (dI r l).phases, (dI r l).tracks, (dI r l).moves, (dI r l).rules, (dI r l).possible) = some (evP r l a b) := by
  obtain ⟨s1, s2, s3, s4⟩ := span_ok hs
  have hn : spn a b = (b - a + 1).toNat := rfl
  have q := dE (β := List (List Str)) (γ := Int × List (List Str) × List Str × Int × List fB × List Nd × List Bool) (fun i => (a + (i : Int), (List.range i).map (phsT r l a), (runT (tel l a) (dI r l) i).2.phases, (runT (tel l a) (dI r l) i).2.tracks, (runT (tel l a) (dI r l) i).2.moves, (runT (tel l a) (dI r l) i).2.rules, (runT (tel l a) (dI r l) i).2.possible)) (List.replicate (spn a b) ()) (some (evP r l a b)) (by simp; omega)
    (body := fun k605 ⟨g583, g585, g588, g590, g592, g596, g600⟩ =>
  gJ (decide (g583 ≤ b)) fun x614 =>
  gK x614
  (gB (Fan l g583) fun x663 =>
  gB (Fag (gY.mk g588 g590 g592 g596 g600) x663) fun ⟨x673, x674⟩ =>
  gB (Fah (gY.mk x674.phases x674.tracks x674.moves x674.rules x674.possible)) fun x694 =>
  gB (Fa3 x673 x694 g585) fun x702 =>
  gJ (IntKind.i64.wrap (g583 + 1)) fun x708 =>
  k605 (x708, x702, x674.phases, x674.tracks, x674.moves, x674.rules, x674.possible))
  (some g585)) (fun k i x hx hi => ?_) (fun k => ?_)
  · rw [show a + ((0 : Nat) : Int) = a by simp] at q
    exact q
  · rw [List.length_replicate] at hi
    obtain ⟨f1, f2, f3⟩ := frame_ok h (a := a) i s1 (by omega)
    have a24 : Fa3 (nxt (tel l a i) (runT (tel l a) (dI r l) i).2).1 (phsT r l a i) ((List.range i).map (phsT r l a)) = some ((List.range (i + 1)).map (phsT r l a)) := by
      unfold Fa3 app'
      simp only [zU]
      rw [if_pos ⟨by rw [maxLen_eq]; simp; omega, by simp; omega⟩, zQ, List.range_succ, List.map_append]
      rfl
    simp only [zU]
    rw [decide_eq_true (by omega : a + (i : Int) ≤ b), yP, f1, zQ]
    show gB (Fag (runT (tel l a) (dI r l) i).2 (tel l a i)) _ = _
    rw [f2, zQ]
    show gB (Fah (nxt (tel l a i) (runT (tel l a) (dI r l) i).2).2) _ = _
    rw [f3, zQ]
    show gB (Fa3 (nxt (tel l a i) (runT (tel l a) (dI r l) i).2).1 (phsT r l a i) ((List.range i).map (phsT r l a))) _ = _
    rw [a24, zQ, wrap_i64 (by omega) (by omega)]
    rw [show a + (i : Int) + 1 = a + ((i + 1 : Nat) : Int) by omega]
    rfl
  · rw [List.length_replicate]
    simp only [zU]
    rw [decide_eq_false (by omega : ¬ a + ((spn a b : Nat) : Int) ≤ b), yQ]
    rfl
theorem span_bind' (a b : Int) (K : Bool → Option (Int × List (List Str))) : (gB (gJ (decide (a < 0)) fun x75 => gB (gK x75 (some true) (gJ (decide (b < a)) fun x81 => some x81)) fun j77 => gK j77 (some true) (gJ (decide (4194304 ≤ b)) fun x84 => some x84)) K) = K (decide (a < 0 ∨ b < a ∨ 4194304 ≤ b)) := by
  simp only [zU]
  by_cases h1 : a < 0
  · rw [decide_eq_true h1, decide_eq_true (Or.inl h1)]; rfl
  · rw [decide_eq_false h1]
    by_cases h2 : b < a
    · rw [decide_eq_true h2, decide_eq_true (Or.inr (Or.inl h2))]; rfl
    · rw [decide_eq_false h2]
      by_cases h3 : 4194304 ≤ b
      · rw [decide_eq_true h3, decide_eq_true (Or.inr (Or.inr h3))]; rfl
      · rw [decide_eq_false h3, decide_eq_false (by omega)]; rfl
theorem Phases_eq {r : Rules} {l : List gZ} (ok : okR r) (hl : okL okTrack l) {a b : Int} (ha : i64 a) (hb : i64 b) : Fa7 r l a b = some (if evE r l a b = 0 then (evP r l a b, 0) else ([], evE r l a b)) := by
  unfold Fa7
  have key : ∃ z, Fce r l a b [] = some (evE r l a b, z) ∧ (evE r l a b = 0 → z = evP r l a b) := by
    unfold Fce
    rw [checkBoth_eq ok hl, zQ]
    simp only [zU]
    unfold evE
    by_cases z : bothE r l = 0
    · have g := both_gb ok z
      rw [decide_eq_false (by simpa using z), yQ, if_neg (by simpa using z)]
      have sb := span_bind' a b (fun g72 => gK g72 (some (9, [])) (gK (decide (20000 < IntKind.i64.wrap (IntKind.i64.wrap (b - a) + 1))) (some (3, [])) (gB (Faq r l) fun x110 => gB (Fdi l b (a, [], x110.phases, x110.tracks, x110.moves, x110.rules, x110.possible)) fun g362 => some (0, g362))))
      simp only [zU] at sb
      rw [sb]
      unfold spanE
      by_cases c : a < 0 ∨ b < a ∨ 4194304 ≤ b
      · rw [decide_eq_true c, yP, if_pos c]
        exact ⟨_, rfl, fun h => absurd h (by decide)⟩
      · rw [decide_eq_false c, yQ, if_neg c, wr_span (by omega)]
        by_cases d : 20000 < b - a + 1
        · rw [decide_eq_true d, yP, if_pos d]
          exact ⟨_, rfl, fun h => absurd h (by decide)⟩
        · rw [decide_eq_false d, yQ, if_neg d, newWatch_eq g, zQ, evalP_ok g (by unfold spanE; rw [if_neg c, if_neg d]), zQ]
          exact ⟨_, rfl, fun _ => rfl⟩
    · rw [decide_eq_true (by simpa using z), yP, if_pos (by simpa using z)]
      exact ⟨_, rfl, fun h => absurd h z⟩
  obtain ⟨z, h1, h2⟩ := key
  rw [h1, zQ]
  simp only [zU]
  by_cases c : evE r l a b = 0
  · rw [h2 c, c, if_pos rfl]; rfl
  · rw [decide_eq_true (by simpa using c), yP, if_neg c]
theorem ev_gb {r:Rules}{l:List gZ}(ok:okR r){a b:Int}(h:evE r l a b=0):GB r l∧spanE a b=0:=by
  unfold evE at h
  split at h
  · rename_i c; exact absurd h c
  · rename_i c; exact ⟨both_gb ok (by simpa using c),h⟩
end Go.Lf
