/- Walks: what each function computes, for every argument; no condition but those that stand in the statements. -/
import Derived.Test.YtckmiljbaejijaaGreatDoorKFa
import Derived.Test.YtckmiljbaejijaaGreatDoorWTa
import Derived.Test.YtckmiljbaejijaaGreatDoorVUa
namespace Go.Lf
open Go.OB
def swp (k:Int):Int:=if k=1 then 2 else if k=2 then 1 else if k=9 then 10 else if k=10 then 9 else if k=11 then 12 else if k=12 then 11 else 0
def kp (k:Int):Bool:=decide (k=6) || decide (k=7) || decide (k=5) || decide (k=14) || decide (k=15)
def aLm (b:Bool)(k:Int)(nm ot:Str)(op n fr:Int)(ks:List Cond):Cond:=
  if kp k=true then if b=true then ⟨8,[],[],0,0,0,[⟨k,nm,ot,op,n,fr,ks⟩]⟩ else ⟨k,nm,ot,op,n,fr,ks⟩
  else if b=true then
    if k=3∨k=4 then ⟨k,nm,ot,ctr op,n,fr,ks⟩
    else if k=13 then ⟨k,nm,ot,op,fr+1 - n,fr,ks⟩
    else ⟨swp k,nm,ot,op,n,fr,ks⟩
  else ⟨k,nm,ot,op,n,fr,ks⟩
mutual
def inw:Bool→Cond→Cond
  | b,⟨k,nm,ot,op,n,fr,ks⟩=>if k=8 then inwh b ks else aLm b k nm ot op n fr (inws (if kp k=true then false else b) ks)
def inwh:Bool→List Cond→Cond
  | _,[]=>⟨0,[],[],0,0,0,[]⟩
  | b,c :: _=>inw (!b) c
def inws:Bool→List Cond→List Cond
  | _,[]=>[]
  | b,c :: l=>inw b c :: inws b l
end
theorem aLz (b:Bool): ∀l:List Cond,inws b l=l.map (inw b)
  | []=>rfl
  | c :: l=>by rw [inws,aLz b l]; rfl
theorem aNv (b:Bool)(c x:Cond)(h:c.Kind=8)(hx:c.Kids[0]? =some x):inw b c=inw (!b) x:=by
  obtain ⟨k,nm,ot,op,n,fr,ks⟩:=c
  simp only at h hx
  rw [inw,if_pos h]
  cases ks with
  | nil=>cases hx
  | cons y l=>obtain rfl:=Option.some.inj hx; rw [inwh]
theorem aNg (b:Bool)(c:Cond)(h:c.Kind≠8):inw b c=aLm b c.Kind c.Name c.Other c.Op c.N c.Frames (c.Kids.map (inw (if kp c.Kind=true then false else b))):=by
  obtain ⟨k,nm,ot,op,n,fr,ks⟩:=c
  rw [inw,if_neg h,aLz]
theorem ck_kids (k:Int)(nm ot:Str)(op n fr:Int)(ks ls:List Cond)(h:ks.length=ls.length):Faa ⟨k,nm,ot,op,n,fr,ks⟩=Faa ⟨k,nm,ot,op,n,fr,ls⟩:=by
  unfold Faa
  simp only [h]
set_option maxHeartbeats 20000000 in
theorem ck_sw (nm ot:Str)(op n fr:Int)(ks:List Cond)(k:Int)(hk2:k=1∨k=2∨k=9∨k=10∨k=11∨k=12)(h1:okS nm)(h2:okS ot)(h:Faa ⟨k,nm,ot,op,n,fr,ks⟩=some 0):Faa ⟨swp k,nm,ot,op,n,fr,ks⟩=some 0:=by
  have w1:swp 1=2:=rfl
  have w2:swp 2=1:=rfl
  have w9:swp 9=10:=rfl
  have w10:swp 10=9:=rfl
  have w11:swp 11=12:=rfl
  have w12:swp 12=11:=rfl
  rcases hk2 with rfl | rfl | rfl | rfl | rfl | rfl<;>
    (simp only [w1,w2,w9,w10,w11,w12]
     unfold Faa at h ⊢
     simp only [if_pos,reduceIte,rf1,rf2,rf3,rf4,rf8,rf9,aPz,aNw,aPc,aPf,zU,yB,Bool.not_true,Bool.not_false,yU,yX,wG,out6,dS _ h1,dS _ h2,Int.reduceEq,Int.reduceLT,Int.reduceLE,decide_true,decide_false,Bool.or_self,nP,aN,kM] at h ⊢
     simp only [kD] at h ⊢
     exact h)
theorem ck_op (nm ot:Str)(op n fr:Int)(ks:List Cond)(k:Int)(hk2:k=3∨k=4)(h1:okS nm)(h2:okS ot)(h:Faa ⟨k,nm,ot,op,n,fr,ks⟩=some 0):Faa ⟨k,nm,ot,ctr op,n,fr,ks⟩=some 0:=by
  have w:decide (ctr op<1)=false:=decide_eq_false (by unfold ctr; omega)
  have w2:decide (6<ctr op)=false:=decide_eq_false (by unfold ctr; omega)
  rcases hk2 with rfl | rfl<;>
    (unfold Faa at h ⊢
     simp only [if_pos,reduceIte,rf1,rf2,rf3,rf4,rf8,rf9,aPz,aNw,aPc,aPf,zU,yB,Bool.not_true,Bool.not_false,yU,yX,wG,out6,dS _ h1,dS _ h2,Int.reduceEq,Int.reduceLT,Int.reduceLE,decide_true,decide_false,Bool.or_self,nP,aN,kM] at h ⊢
     simp only [w,w2]
     simp only [kD] at h ⊢
     grind)
theorem ck_13 (nm ot:Str)(op n fr:Int)(ks:List Cond)(h1:okS nm)(h2:okS ot)(h:Faa ⟨13,nm,ot,op,n,fr,ks⟩=some 0):Faa ⟨13,nm,ot,op,fr+1 - n,fr,ks⟩=some 0∧1≤n∧n≤fr:=by
  unfold Faa at h ⊢
  simp only [if_pos,reduceIte,rf1,rf2,rf3,rf4,rf8,rf9,aPz,aNw,aPc,aPf,zU,yB,Bool.not_true,Bool.not_false,yU,yX,wG,out6,dS _ h1,dS _ h2,Int.reduceEq,Int.reduceLT,Int.reduceLE,decide_true,decide_false,Bool.or_self,nP,aN,kM] at h ⊢
  simp only [kD] at h ⊢
  refine ⟨?_,?_,?_⟩<;>grind
theorem ck_8 (nm ot:Str)(op n fr:Int)(ks:List Cond)(h1:okS nm)(h2:okS ot)(h:Faa ⟨8,nm,ot,op,n,fr,ks⟩=some 0):ks.length=1:=by
  unfold Faa at h
  simp only [if_pos,reduceIte,rf1,rf2,rf3,rf4,rf8,rf9,aPz,aNw,aPc,aPf,zU,yB,Bool.not_true,Bool.not_false,yU,yX,wG,out6,dS _ h1,dS _ h2,Int.reduceEq,Int.reduceLT,Int.reduceLE,decide_true,decide_false,Bool.or_self,nP,aN,kM] at h
  simp only [kD] at h
  grind
theorem ck_not (x:Cond):Faa ⟨8,[],[],0,0,0,[x]⟩=some 0:=by
  unfold Faa
  simp only [rf8,zU,yB,Bool.not_true,Bool.not_false,yU,yX,wG,out6,Int.reduceEq,Int.reduceLT,Int.reduceLE,decide_true,decide_false,Bool.or_self,nP,aN,kM,List.length_singleton]
  rfl
end Go.Lf
namespace Go.Lf
open Go.OB
theorem ck1_eq {c : Cond} (g : Gt c) : Faa c = some 0 := by
  have h := g.e
  rw [aCj] at h
  split at h
  · rename_i q
    have e := (aCw c (tX g.ok) g.kids).2
    rwa [q] at e
  · rename_i q; exact absurd h q
theorem kid8 {c:Cond}(g:Gt c)(h:c.Kind=8): ∃x,c.Kids[0]? =some x:=by
  have e:=ck1_eq g
  have o:=tX g.ok
  obtain ⟨k,nm,ot,op,n,fr,ks⟩:=c
  simp only at h
  subst h
  have:=ck_8 nm ot op n fr ks o.1 o.2 e
  exact ⟨_,List.getElem?_eq_getElem (by simp only; omega)⟩
theorem kp_iff (k:Int):kp k=true↔k=6∨k=7∨k=5∨k=14∨k=15:=by
  unfold kp
  simp only [Bool.or_eq_true,decide_eq_true_eq,or_assoc]
structure Gkl (l:List Cond):Prop where
  ok: ∀x ∈ l,okC x
  e: ∀x ∈ l,fE ck1 x=0
theorem fEs_0 (f:Cond→Int): ∀l:List Cond,(∀x ∈ l,fE f x=0)→fEs f l=0
  | [],_=>rfl
  | c :: l,h=>by rw [fEs,if_pos (h c List.mem_cons_self)]; exact fEs_0 f l fun x hx=>h x (List.mem_cons_of_mem _ hx)
theorem okS0:okS ([]:Str):=by unfold okS; simp
theorem i0:i64 0:=⟨by decide,by decide⟩
theorem i8:i64 8:=⟨by decide,by decide⟩
theorem i64_of {n:Int}(h1: -9223372036854775808≤n)(h2:n≤9223372036854775807):i64 n:=⟨h1,h2⟩
theorem ck1_0 {c:Cond}(h:Faa c=some 0):ck1 c=0:=by unfold ck1; rw [h]; rfl
theorem fE_0 {c:Cond}(h:Faa c=some 0)(hk: ∀x ∈ c.Kids,fE ck1 x=0):fE ck1 c=0:=by
  rw [aCj,if_pos (ck1_0 h)]; exact fEs_0 _ _ hk
theorem top_ok {k : Int} {nm ot : Str} {op n fr : Int} {ks : List Cond} (b : Bool) (o1 : okS nm) (o2 : okS ot) (g : Gd ⟨k, nm, ot, op, n, fr, ks⟩) (h : Faa ⟨k, nm, ot, op, n, fr, ks⟩ = some 0) (h8 : k ≠ 8) (hl : ks.length ≤ 200) (hk : Gkl ks) : okC (aLm b k nm ot op n fr ks) ∧ fE ck1 (aLm b k nm ot op n fr ks) = 0 := by
  have hk1 := g.k1
  have hop := g.op
  have hn := g.n
  have hfr := g.fr
  simp only at hk1 hop hn hfr
  have okk : ∀ {k' op' n' : Int}, i64 k' → i64 op' → i64 n' → okC ⟨k', nm, ot, op', n', fr, ks⟩ := fun a1 a2 a3 => (nH _).2 ⟨⟨a1, o1, o2, a2, a3, i64_of (by simp only; omega) (by simp only; omega)⟩, by simp only; omega, (rM _).2 hk.ok⟩
  have base : okC ⟨k, nm, ot, op, n, fr, ks⟩ := okk (by unfold i64; omega) (by unfold i64; omega) (by unfold i64; omega)
  have base2 : fE ck1 ⟨k, nm, ot, op, n, fr, ks⟩ = 0 := fE_0 h hk.e
  unfold aLm
  split
  · split
    · refine ⟨(nH _).2 ⟨⟨i8, okS0, okS0, i0, i0, i0⟩, by simp, (rM _).2 fun x hx => ?_⟩, fE_0 (ck_not _) fun x hx => ?_⟩
      · obtain rfl := List.mem_singleton.1 hx; exact base
      · obtain rfl := List.mem_singleton.1 hx; exact base2
    · exact ⟨base, base2⟩
  · rename_i q
    rw [kp_iff] at q
    split
    · split
      · rename_i q2
        exact ⟨okk (by unfold i64; omega) (by unfold ctr i64; omega) (by unfold i64; omega), fE_0 (ck_op nm ot op n fr ks k q2 o1 o2 h) hk.e⟩
      · split
        · rename_i q3
          subst q3
          obtain ⟨h1, h2, h3⟩ := ck_13 nm ot op n fr ks o1 o2 h
          exact ⟨okk (by unfold i64; omega) (by unfold i64; omega) (by unfold i64; omega), fE_0 h1 hk.e⟩
        · rename_i q4 q5
          have hk2 : k = 1 ∨ k = 2 ∨ k = 9 ∨ k = 10 ∨ k = 11 ∨ k = 12 := by omega
          exact ⟨okk (by unfold swp i64; omega) (by unfold i64; omega) (by unfold i64; omega), fE_0 (ck_sw nm ot op n fr ks k hk2 o1 o2 h) hk.e⟩
    · exact ⟨base, base2⟩
theorem aIl : ∀ (m : Nat) (b : Bool) (c : Cond), dN c ≤ m → Gt c → okC (inw b c) ∧ fE ck1 (inw b c) = 0
  | 0, _, c, h, _ => by have := pO c; omega
  | m + 1, b, c, h, g => by
    by_cases h8 : c.Kind = 8
    · obtain ⟨x, hx⟩ := kid8 g h8
      obtain ⟨k1, k2, k3⟩ := jQ g.ok hx
      rw [aNv b c x h8 hx]
      exact aIl m (!b) x (by omega) (g.kid (List.mem_of_getElem? hx))
    · rw [aNg b c h8]
      have gl := g.kids
      have hm : ∀ x ∈ c.Kids.map (inw (if kp c.Kind = true then false else b)), okC x ∧ fE ck1 x = 0 := by
        intro x hx
        obtain ⟨y, hy, rfl⟩ := List.mem_map.1 hx
        obtain ⟨j, hj⟩ := List.getElem?_of_mem hy
        obtain ⟨k1, k2, k3⟩ := jQ g.ok hj
        exact aIl m _ y (by omega) (g.kid hy)
      have e := ck1_eq g
      have s := g.self
      have o := tX g.ok
      obtain ⟨k, nm, ot, op, n, fr, ks⟩ := c
      simp only at gl hm
      refine top_ok b o.1 o.2 ⟨s.k1, s.nm, s.ot, s.op, s.n, s.fr⟩ ?_ h8 (by simp only [List.length_map]; omega) ⟨fun x hx => (hm x hx).1, fun x hx => (hm x hx).2⟩
      rw [ck_kids _ _ _ _ _ _ _ ks (by simp)]
      exact e
theorem mget_6 (k:Int):mJ [((1:Int),(2:Int)),(2,1),(9,10),(10,9),(11,12),(12,11)] k 0=swp k:=by
  unfold mJ swp
  simp only [List.find?_cons,List.find?_nil,eq_comm (a:=k)]
  by_cases h1:1=k
  · simp [h1]
  by_cases h2:2=k
  · simp [h1,h2]
  by_cases h3:9=k
  · simp [h1,h2,h3]
  by_cases h4:10=k
  · simp [h1,h2,h3,h4]
  by_cases h5:11=k
  · simp [h1,h2,h3,h4,h5]
  by_cases h6:12=k
  · simp [h1,h2,h3,h4,h5,h6]
  · simp [h1,h2,h3,h4,h5,h6]
theorem aMb (op:Int):Fb8 op=some (ctr op):=by
  unfold Fb8 ctr
  simp only [yB,wC]
  (repeat' split)<;>rfl
theorem kp_bind (k:Int):(gK (decide (k=6)) fun x173=>gQ x173 (some x173) (gK (decide (k=7)) fun x177=>gQ x177 (some x177) (gK (decide (k=5)) fun x181=>gQ x181 (some x181) (gK (decide (k=14)) fun x185=>gQ x185 (some x185) (gK (decide (k=15)) fun x188=>some x188)))))=some (kp k):=by
  unfold kp
  simp only [yB,aSo,Bool.or_assoc]
  cases decide (k=6)<;>cases decide (k=7)<;>cases decide (k=5)<;>cases decide (k=14)<;>rfl
theorem or_bind (p q:Bool):(gK p fun x=>gQ x (some x) (gK q fun x=>some x))=some (p || q):=by
  simp only [yB]
  cases p<;>rfl
theorem aFu : ∀ (m : Nat) (b : Bool) (c : Cond), dN c ≤ m → Gt c → Fa5 m c b = some (inw b c)
  | 0, _, c, h, _ => by have := pO c; omega
  | m + 1, b, c, h, g => by
    have hl := g.kids
    show Fcg (Fa5 m) c b = _
    unfold Fcg
    have e0 : ∀ K : List (Int × Int) → Option Cond, (gG (aBf ([] : List (Int × Int)) 1 2) fun x15 => gG (aBf x15 2 1) fun x18 => gG (aBf x18 9 10) fun x21 => gG (aBf x21 10 9) fun x24 => gG (aBf x24 11 12) fun x27 => gG (aBf x27 12 11) fun x30 => K x30) = K [((1 : Int), (2 : Int)), (2, 1), (9, 10), (10, 9), (11, 12), (12, 11)] := fun _ => rfl
    rw [e0]
    simp only [yB]
    by_cases h8 : c.Kind = 8
    · obtain ⟨x, hx⟩ := kid8 g h8
      obtain ⟨k1, k2, k3⟩ := jQ g.ok hx
      rw [decide_eq_true h8, yU, show at' c.Kids 0 = some x from dP (i := 0) hx, zU, aFu m (!b) x (by omega) (g.kid (List.mem_of_getElem? hx)), zU, aNv b c x h8 hx]
    · rw [decide_eq_false h8, yX]
      have e1 : ∀ d : Bool, Fbd (Fa5 m) c.Kids d = some (c.Kids.map (inw d)) := by
        intro d
        unfold Fbd Fe0
        rw [yB]
        refine (congrArg (fun o => gG o fun g => some g) (aP (fun (i : Nat) => ((c.Kids.take i).map (inw d), (i : Int))) c.Kids (some (c.Kids.map (inw d))) (by omega) ?_ ?_)).trans (zU _ _)
        · intro kk i x hx hi
          obtain ⟨k1, k2, k3⟩ := jQ g.ok hx
          simp only [yB]
          rw [wF hi, yU, dP hx, zU, aFu m d x (by omega) (g.kid (List.mem_of_getElem? hx)), zU, appN _ _ _ (by simp; omega) (by decide), zU, dE hi (by omega), take_snoc hx, List.map_append]
          rfl
        · intro kk
          simp only [yB]
          rw [wE, yX, List.take_length]
      have e2 := kp_bind c.Kind
      simp only [yB] at e2
      rw [e2, zU, aNg b c h8]
      unfold aLm
      cases hk : kp c.Kind with
      | true =>
        rw [yU, e1, zU]
        simp only [reduceIte]
        cases b <;> rfl
      | false =>
        rw [yX, e1, zU]
        simp only [reduceIte, Bool.false_eq_true]
        cases b with
        | false => rfl
        | true =>
          simp only [Bool.not_true, yX, reduceIte]
          have e3 := or_bind (decide (c.Kind = 3)) (decide (c.Kind = 4))
          simp only [yB] at e3
          rw [e3, zU]
          by_cases h3 : c.Kind = 3 ∨ c.Kind = 4
          · have q : (decide (c.Kind = 3) || decide (c.Kind = 4)) = true := by simpa using h3
            rw [q, yU, aMb c.Op, if_pos h3]; rfl
          · have q : (decide (c.Kind = 3) || decide (c.Kind = 4)) = false := by simpa using h3
            rw [q, yX, if_neg h3]
            by_cases h13 : c.Kind = 13
            · have s := g.self.fr
              have s2 := g.self.n
              rw [decide_eq_true h13, yU, if_pos h13, wrap_i64 (n := c.Frames + 1) (by omega) (by omega), wrap_i64 (by omega) (by omega)]; rfl
            · rw [decide_eq_false h13, yX, if_neg h13, mget_6]; rfl
end Go.Lf
namespace Go.Lf
open Go.OB
structure Mk where
  tr:Str→Int
  dn:Int→Int
  ph:Str→Int
  rl:Str→Int
def mkK (M:Mk)(k:Int)(nm ot:Str)(op n fr:Int)(ks:List Nd):Nd:=
  if k=1 then .constant 2 else if k=2 then .constant 1 else if k=3 then .number (M.tr nm) op n
  else if k=4 then .pair (M.tr nm) (M.tr ot) (M.dn (M.tr nm)) (M.dn (M.tr ot)) op
  else if k=5 then .steady (M.tr nm) n fr [] else if k=6 then .phase (M.ph nm) else if k=7 then .rule (M.rl nm)
  else if k=8 then .not (ks.getD 0 (.constant 0)) else if k=9∨k=10 then .group ks (decide (k=10))
  else if k=11 then .count (ks.getD 0 (.constant 0)) fr fr [] (mM []) else if k=12 then .count (ks.getD 0 (.constant 0)) 1 fr [] (mM [])
  else if k=13 then .count (ks.getD 0 (.constant 0)) n fr [] (mM []) else if k=14 then .since (ks.getD 0 (.constant 0)) (ks.getD 1 (.constant 0)) 0 false
  else .rises (ks.getD 0 (.constant 0)) 0 false
mutual
def mkN (M:Mk):Cond→Nd
  | ⟨k,nm,ot,op,n,fr,ks⟩=>mkK M k nm ot op n fr (aJl M ks)
def aJl (M:Mk):List Cond→List Nd
  | []=>[]
  | c :: l=>mkN M c :: aJl M l
end
theorem aLn (M:Mk): ∀l,aJl M l=l.map (mkN M)
  | []=>by rw [aJl]; rfl
  | c :: l=>by rw [aJl,aLn M l]; rfl
theorem dK (M:Mk)(c:Cond):mkN M c=mkK M c.Kind c.Name c.Other c.Op c.N c.Frames (c.Kids.map (mkN M)):=by
  obtain ⟨k,nm,ot,op,n,fr,ks⟩:=c
  rw [mkN,aLn]
theorem kinds {k:Int}(h:1≤k∧k≤15):k=1∨k=2∨k=3∨k=4∨k=5∨k=6∨k=7∨k=8∨k=9∨k=10∨k=11∨k=12∨k=13∨k=14∨k=15:=by omega
theorem aRn (ks:List Nd)(i:Nat):dpN (ks.getD i (.constant 0))≤dpL ks:=by
  rw [List.getD_eq_getElem?_getD]
  cases h:ks[i]? with
  | none=>exact Nat.zero_le _
  | some k=>exact aBh (List.mem_of_getElem? h)
theorem mkK_dp (M:Mk)(k:Int)(nm ot:Str)(op n fr:Int)(ks:List Nd):dpN (mkK M k nm ot op n fr ks)≤dpL ks+1:=by
  have h0:=aRn ks 0
  have h1:=aRn ks 1
  unfold mkK
  by_cases e0:k=1
  · rw [if_pos e0]; exact Nat.zero_le _
  rw [if_neg e0]
  by_cases e1:k=2
  · rw [if_pos e1]; exact Nat.zero_le _
  rw [if_neg e1]
  by_cases e2:k=3
  · rw [if_pos e2]; exact Nat.zero_le _
  rw [if_neg e2]
  by_cases e3:k=4
  · rw [if_pos e3]; exact Nat.zero_le _
  rw [if_neg e3]
  by_cases e4:k=5
  · rw [if_pos e4]; exact Nat.zero_le _
  rw [if_neg e4]
  by_cases e5:k=6
  · rw [if_pos e5]; exact Nat.zero_le _
  rw [if_neg e5]
  by_cases e6:k=7
  · rw [if_pos e6]; exact Nat.zero_le _
  rw [if_neg e6]
  by_cases e7:k=8
  · rw [if_pos e7]; rw [dpN]; omega
  rw [if_neg e7]
  by_cases e8:k=9∨k=10
  · rw [if_pos e8]; rw [dpN]; exact Nat.le_refl _
  rw [if_neg e8]
  by_cases e9:k=11
  · rw [if_pos e9]; rw [dpN]; omega
  rw [if_neg e9]
  by_cases e10:k=12
  · rw [if_pos e10]; rw [dpN]; omega
  rw [if_neg e10]
  by_cases e11:k=13
  · rw [if_pos e11]; rw [dpN]; omega
  rw [if_neg e11]
  by_cases e12:k=14
  · rw [if_pos e12]; rw [dpN]; omega
  rw [if_neg e12]
  rw [dpN]; omega
mutual
theorem aJw (M:Mk): ∀c,dpN (mkN M c)≤dN c
  | ⟨k,nm,ot,op,n,fr,ks⟩=>by
    have h:=aSn M ks
    have h1:=mkK_dp M k nm ot op n fr (aJl M ks)
    rw [mkN,dN]; omega
theorem aSn (M:Mk): ∀l,dpL (aJl M l)≤dNs l
  | []=>by rw [aJl,dpL]; exact Nat.zero_le _
  | c :: l=>by
    have h:=aJw M c
    have h1:=aSn M l
    rw [aJl,dpL,dNs]; omega
end
theorem aRj {c x:Cond}(hx:x ∈ c.Kids){s:Str}(hs:s ∈ aG x):s ∈ aG c:=by
  rw [nT,List.mem_append]
  right
  have key: ∀l:List Cond,x ∈ l→s ∈ jG l:=by
    intro l
    induction l with
    | nil=>intro h; cases h
    | cons a l ih=>
      intro h
      rw [jG,List.mem_append]
      rcases List.mem_cons.1 h with rfl | h
      · left; exact hs
      · right; exact ih h
  exact key _ hx
theorem aSf {p:Cond→Bool}{c x:Cond}(hx:x ∈ c.Kids)(h:nS p c=false):nS p x=false:=by
  rw [aKd,Bool.or_eq_false_iff] at h
  have key: ∀l:List Cond,x ∈ l→tC p l=false→nS p x=false:=by
    intro l
    induction l with
    | nil=>intro h; cases h
    | cons a l ih=>
      intro h q
      rw [tC,Bool.or_eq_false_iff] at q
      rcases List.mem_cons.1 h with rfl | h
      · exact q.1
      · exact ih h q.2
  exact key _ hx h.2
theorem aKs {p:Cond→Bool}{c:Cond}(h:nS p c=false):p c=false:=by
  rw [aKd,Bool.or_eq_false_iff] at h; exact h.1
theorem bV {c:Cond}(h:c.Kids.length=1): ∃x,c.Kids= [x]:=by
  match e:c.Kids,h with
  | [x],_=>exact ⟨x,rfl⟩
theorem aFt {c:Cond}(h:c.Kids.length=2): ∃x y,c.Kids= [x,y]:=by
  match e:c.Kids,h with
  | [x,y],_=>exact ⟨x,y,rfl⟩
theorem aQf (M : Mk) {T P R : Nat} (q : Cond → Bool) (hq : ∀ c, q c = false → (c.Kind = 6 → 0 ≤ M.ph c.Name ∧ M.ph c.Name < P) ∧ (c.Kind = 7 → 0 ≤ M.rl c.Name ∧ M.rl c.Name < R)) :
    ∀ (m : Nat) (c : Cond), dN c ≤ m → Gt c → (∀ s ∈ aG c, 0 ≤ M.tr s ∧ M.tr s < T) → nS q c = false → wfN T P R (mkN M c)
  | 0, c, h, _, _, _ => by have := pO c; omega
  | m + 1, c, h, g, ht, ha => by
    have hk : ∀ x ∈ c.Kids, wfN T P R (mkN M x) := fun x hx => by
      obtain ⟨j, hj⟩ := List.getElem?_of_mem hx
      exact aQf M q hq m x (by have := (jQ g.ok hj).2.1; omega) (g.kid hx) (fun s hs => ht s (aRj hx hs)) (aSf hx ha)
    have gk := g.gk
    have gs := g.self
    have hl := g.kids
    have qs := hq c (aKs ha)
    have nm : ∀ s ∈ nm1 c, 0 ≤ M.tr s ∧ M.tr s < T := fun s hs => ht s (by rw [nT, List.mem_append]; exact Or.inl hs)
    have g1 := gs.fr
    have g2 := gs.n
    rw [dK]
    rcases kinds gs.k1 with e | e | e | e | e | e | e | e | e | e | e | e | e | e | e <;> rw [e] <;> simp only [mkK, Int.reduceEq, if_true, if_false, or_true, true_or, or_self]
    · exact ⟨by omega, by omega⟩
    · exact ⟨by omega, by omega⟩
    · exact nm c.Name (by unfold nm1; simp [e])
    · exact ⟨nm c.Name (by unfold nm1; simp [e]), nm c.Other (by unfold nm1; simp [e])⟩
    · have := gk.fr (by omega)
      exact ⟨nm c.Name (by unfold nm1; simp [e]), ⟨by omega, by omega⟩, by simp; omega⟩
    · exact qs.1 e
    · exact qs.2 e
    · obtain ⟨x, hx⟩ := bV (gk.o (by omega))
      rw [hx]; exact hk x (by rw [hx]; exact List.mem_cons_self)
    · exact ⟨rW.2 fun x hx => by obtain ⟨y, hy, rfl⟩ := List.mem_map.1 hx; exact hk y hy, by rw [List.length_map]; omega⟩
    · exact ⟨rW.2 fun x hx => by obtain ⟨y, hy, rfl⟩ := List.mem_map.1 hx; exact hk y hy, by rw [List.length_map]; omega⟩
    · obtain ⟨x, hx⟩ := bV (gk.o (by omega))
      have := gk.fr (by omega)
      rw [hx]; exact ⟨hk x (by rw [hx]; exact List.mem_cons_self), ⟨by omega, by omega⟩, ⟨by omega, by omega⟩, by simp; omega, by simp, rfl⟩
    · obtain ⟨x, hx⟩ := bV (gk.o (by omega))
      have := gk.fr (by omega)
      rw [hx]; exact ⟨hk x (by rw [hx]; exact List.mem_cons_self), ⟨by omega, by omega⟩, ⟨by omega, by omega⟩, by simp; omega, by simp, rfl⟩
    · obtain ⟨x, hx⟩ := bV (gk.o (by omega))
      have := gk.fr (by omega)
      have := gk.cn e
      rw [hx]; exact ⟨hk x (by rw [hx]; exact List.mem_cons_self), ⟨by omega, by omega⟩, ⟨by omega, by omega⟩, by simp; omega, by simp, rfl⟩
    · obtain ⟨x, y, hx⟩ := aFt (gk.t e)
      rw [hx]; exact ⟨hk x (by rw [hx]; simp), hk y (by rw [hx]; simp), by omega, by omega⟩
    · obtain ⟨x, hx⟩ := bV (gk.o (by omega))
      rw [hx]; exact ⟨hk x (by rw [hx]; exact List.mem_cons_self), by omega, by omega⟩
theorem aSa (M : Mk) : ∀ (m : Nat) (b : Bool) (c : Cond), dN c ≤ m → Gt c → mkN M (inw b c) = dD b (mkN M c)
  | 0, _, c, h, _ => by have := pO c; omega
  | m + 1, b, c, h, g => by
    have hk : ∀ (d : Bool) x, x ∈ c.Kids → mkN M (inw d x) = dD d (mkN M x) := fun d x hx => by
      obtain ⟨j, hj⟩ := List.getElem?_of_mem hx
      exact aSa M m d x (by have := (jQ g.ok hj).2.1; omega) (g.kid hx)
    have hks : ∀ d : Bool, (c.Kids.map (inw d)).map (mkN M) = (c.Kids.map (mkN M)).map (dD d) := fun d => by
      rw [List.map_map, List.map_map]
      exact List.map_congr_left fun x hx => hk d x hx
    have gk := g.gk
    have gs := g.self
    by_cases h8 : c.Kind = 8
    · obtain ⟨x, hx⟩ := bV (gk.o (by omega))
      rw [aNv b c x h8 (by rw [hx]; rfl), hk (!b) x (by rw [hx]; exact List.mem_cons_self), dK M c, h8, hx]
      simp only [mkK, Int.reduceEq, if_true, if_false, List.map_cons, List.map_nil]
      show _ = dD b (.not (mkN M x))
      rw [dD]
    · rw [aNg b c h8, dK M c]
      obtain ⟨k, nm, ot, op, n, fr, ks⟩ := c
      simp only at h8 hks gs gk hk ⊢
      rcases kinds gs.k1 with e | e | e | e | e | e | e | e | e | e | e | e | e | e | e <;> simp only at e <;> subst e
      · cases b <;> (rw [dK]; rfl)
      · cases b <;> (rw [dK]; rfl)
      · cases b <;> (rw [dK]; rfl)
      · cases b <;> (rw [dK]; rfl)
      · cases b
        · rw [dK]; rfl
        · show mkN M ⟨8, [], [], 0, 0, 0, [⟨5, nm, ot, op, n, fr, _⟩]⟩ = _
          rw [dK, List.map_singleton, dK]; rfl
      · cases b
        · rw [dK]; rfl
        · show mkN M ⟨8, [], [], 0, 0, 0, [⟨6, nm, ot, op, n, fr, _⟩]⟩ = _
          rw [dK, List.map_singleton, dK]; rfl
      · cases b
        · rw [dK]; rfl
        · show mkN M ⟨8, [], [], 0, 0, 0, [⟨7, nm, ot, op, n, fr, _⟩]⟩ = _
          rw [dK, List.map_singleton, dK]; rfl
      · exact absurd rfl h8
      · have e1 := hks b
        cases b
        · show mkN M ⟨9, nm, ot, op, n, fr, ks.map (inw false)⟩ = dD false (.group (ks.map (mkN M)) false)
          rw [dK, e1, dD, pK]; rfl
        · show mkN M ⟨10, nm, ot, op, n, fr, ks.map (inw true)⟩ = dD true (.group (ks.map (mkN M)) false)
          rw [dK, e1, dD, pK]; rfl
      · have e1 := hks b
        cases b
        · show mkN M ⟨10, nm, ot, op, n, fr, ks.map (inw false)⟩ = dD false (.group (ks.map (mkN M)) true)
          rw [dK, e1, dD, pK]; rfl
        · show mkN M ⟨9, nm, ot, op, n, fr, ks.map (inw true)⟩ = dD true (.group (ks.map (mkN M)) true)
          rw [dK, e1, dD, pK]; rfl
      · obtain ⟨x, hx⟩ := bV (gk.o (by simp))
        simp only at hx
        subst hx
        have e1 := hk b x List.mem_cons_self
        cases b
        · show mkN M ⟨11, nm, ot, op, n, fr, [inw false x]⟩ = dD false (.count (mkN M x) fr fr [] (mM []))
          rw [dK, List.map_singleton, e1, dD]; rfl
        · show mkN M ⟨12, nm, ot, op, n, fr, [inw true x]⟩ = dD true (.count (mkN M x) fr fr [] (mM []))
          rw [dK, List.map_singleton, e1, dD, if_pos rfl, show fr + 1 - fr = 1 by omega]; rfl
      · obtain ⟨x, hx⟩ := bV (gk.o (by simp))
        simp only at hx
        subst hx
        have e1 := hk b x List.mem_cons_self
        cases b
        · show mkN M ⟨12, nm, ot, op, n, fr, [inw false x]⟩ = dD false (.count (mkN M x) 1 fr [] (mM []))
          rw [dK, List.map_singleton, e1, dD]; rfl
        · show mkN M ⟨11, nm, ot, op, n, fr, [inw true x]⟩ = dD true (.count (mkN M x) 1 fr [] (mM []))
          rw [dK, List.map_singleton, e1, dD, if_pos rfl, show fr + 1 - 1 = fr by omega]; rfl
      · obtain ⟨x, hx⟩ := bV (gk.o (by simp))
        simp only at hx
        subst hx
        have e1 := hk b x List.mem_cons_self
        cases b
        · show mkN M ⟨13, nm, ot, op, n, fr, [inw false x]⟩ = dD false (.count (mkN M x) n fr [] (mM []))
          rw [dK, List.map_singleton, e1, dD]; rfl
        · show mkN M ⟨13, nm, ot, op, fr + 1 - n, fr, [inw true x]⟩ = dD true (.count (mkN M x) n fr [] (mM []))
          rw [dK, List.map_singleton, e1, dD]; rfl
      · obtain ⟨x, y, hx⟩ := aFt (gk.t rfl)
        simp only at hx
        subst hx
        have e1 := hk false x (by simp)
        have e2 := hk false y (by simp)
        cases b
        · show mkN M ⟨14, nm, ot, op, n, fr, [inw false x, inw false y]⟩ = dD false (.since (mkN M x) (mkN M y) 0 false)
          rw [dK, List.map_cons, List.map_singleton, e1, e2, dD]; rfl
        · show mkN M ⟨8, [], [], 0, 0, 0, [⟨14, nm, ot, op, n, fr, [inw false x, inw false y]⟩]⟩ = dD true (.since (mkN M x) (mkN M y) 0 false)
          rw [dK, List.map_singleton, dK, List.map_cons, List.map_singleton, e1, e2, dD]; rfl
      · obtain ⟨x, hx⟩ := bV (gk.o (by simp))
        simp only at hx
        subst hx
        have e1 := hk false x List.mem_cons_self
        cases b
        · show mkN M ⟨15, nm, ot, op, n, fr, [inw false x]⟩ = dD false (.rises (mkN M x) 0 false)
          rw [dK, List.map_singleton, e1, dD]; rfl
        · show mkN M ⟨8, [], [], 0, 0, 0, [⟨15, nm, ot, op, n, fr, [inw false x]⟩]⟩ = dD true (.rises (mkN M x) 0 false)
          rw [dK, List.map_singleton, dK, List.map_singleton, e1, dD]; rfl
end Go.Lf
namespace Go.Lf
open Go.OB
theorem aLc {α:Type}(p:α→Bool): ∀(l:List α) (i:Nat),∃n,bD (fun i x=>if p x=true then some (some (i:Int)) else none) (some (-1)) l i=some n∧(l.any p=true→(i:Int)≤n∧n<i+l.length)
  | [],i=>⟨-1,rfl,fun h=>by simp at h⟩
  | x :: l,i=>by
    rw [bD]
    cases h:p x with
    | true=>exact ⟨i,rfl,fun _=>by rw [List.length_cons]; omega⟩
    | false=>
      obtain ⟨n,h1,h2⟩:=aLc p l (i+1)
      refine ⟨n,by simpa using h1,fun q=>?_⟩
      rw [List.any_cons,h,Bool.false_or] at q
      have:=h2 q
      rw [List.length_cons]; omega
def aDy (l:List Str)(s:Str):Int:=(Fae l s).getD (-1)
theorem aBg (l : List Str) (s : Str) (hl : l.length ≤ 9223372036854775807) : Fae l s = some (aDy l s) ∧ (s ∈ l → 0 ≤ aDy l s ∧ aDy l s < l.length) := by
  obtain ⟨n, h1, h2⟩ := aLc (fun y => decide (s = y)) l 0
  have e : Fae l s = some n := by
    unfold Fae
    simp only [yB, wG]
    unfold Fc3
    rw [← h1]
    refine wK l _ _ hl ?_ ?_
    · intro kk i x hx hi
      simp only [yB, zU]
      rw [wF hi, yU, dP hx, zU, dE hi hl]
      cases decide (s = x) <;> rfl
    · intro kk; simp only [yB]; rw [wE]; rfl
  have e2 : aDy l s = n := by unfold aDy; rw [e]; rfl
  refine ⟨by rw [e2]; exact e, fun h => ?_⟩
  have := h2 (by rw [List.any_eq_true]; exact ⟨s, h, by simp⟩)
  rw [e2]; omega
def mkrM (k:fU):Mk:=⟨fun s=>mJ k.tracks s 0,fun i=>(at' k.dens i).getD 0,fun s=>aDy k.phases s,fun s=>mJ k.rules s 0⟩
theorem aGh:(Arr.rep 3 0:Arr 3 Int)=mM []:=aJr rfl
theorem at_D {l:List Int}{i:Int}(h:0≤i∧i<l.length):at' l i=some ((at' l i).getD 0):=by
  obtain ⟨x,hx⟩:=aBc h
  rw [hx]; rfl
theorem aSy (k : fU) (hp : k.phases.length ≤ 9223372036854775807) : ∀ (n : Nat) (c : Cond), dN c ≤ n → Gt c → (∀ s ∈ aG c, 0 ≤ mJ k.tracks s 0 ∧ mJ k.tracks s 0 < k.dens.length) → Faq n k c = some (mkN (mkrM k) c)
  | 0, c, h, _, _ => by have := pO c; omega
  | n + 1, c, h, g, ht => by
    have hl := g.kids
    have gk := g.gk
    have gs := g.self
    have nm : ∀ s ∈ nm1 c, 0 ≤ mJ k.tracks s 0 ∧ mJ k.tracks s 0 < k.dens.length := fun s hs => ht s (by rw [nT, List.mem_append]; exact Or.inl hs)
    have e1 : Fa8 (Faq n) k c.Kids = some (c.Kids.map (mkN (mkrM k))) := by
      unfold Fa8 Fe5
      rw [yB]
      refine (congrArg (fun o => gG o fun g => some g) (aP (fun (i : Nat) => ((c.Kids.take i).map (mkN (mkrM k)), (i : Int))) c.Kids (some (c.Kids.map (mkN (mkrM k)))) (by omega) ?_ ?_)).trans (zU _ _)
      · intro kk i x hx hi
        obtain ⟨k1, k2, k3⟩ := jQ g.ok hx
        have hm := List.mem_of_getElem? hx
        simp only [yB]
        rw [wF hi, yU, dP hx, zU, aSy k hp n x (by omega) (g.kid hm) (fun s hs => ht s (aRj hm hs)), zU, ap16 (by simp; omega), zU, dE hi (by omega), nU hx, List.map_append]
        rfl
      · intro kk
        simp only [yB]
        rw [wE, yX, List.take_length]
    show Fcf (Faq n) k c = _
    unfold Fcf
    show gG (Fa8 (Faq n) k c.Kids) _ = _
    rw [e1, zU, dK]
    have at0 : ∀ (l : List Nd) (x : Nd), l = [x] → at' l 0 = some x := fun l x h => by rw [h]; rfl
    rcases kinds gs.k1 with e | e | e | e | e | e | e | e | e | e | e | e | e | e | e <;> rw [e] <;> simp only [yB, zU, Int.reduceEq, decide_true, decide_false, yU, yX, mkK, if_true, if_false, or_true, true_or, or_self]
    · rfl
    · have a := nm c.Name (by unfold nm1; simp [e])
      have b := nm c.Other (by unfold nm1; simp [e])
      rw [at_D a, at_D b]
      rfl
    · rfl
    · rw [(aBg k.phases c.Name hp).1]; rfl
    · rfl
    · obtain ⟨x, hx⟩ := bV (gk.o (by omega))
      rw [hx]; rfl
    · obtain ⟨x, hx⟩ := bV (gk.o (by omega))
      rw [hx, aGh]; rfl
    · obtain ⟨x, hx⟩ := bV (gk.o (by omega))
      rw [hx, aGh]; rfl
    · obtain ⟨x, hx⟩ := bV (gk.o (by omega))
      rw [hx, aGh]; rfl
    · obtain ⟨x, y, hx⟩ := aFt (gk.t e)
      rw [hx]; rfl
    · obtain ⟨x, hx⟩ := bV (gk.o (by omega))
      rw [hx]; rfl
theorem maker_ok (k:fU)(hp:k.phases.length≤9223372036854775807){c:Cond}(g:Gt c)(ht: ∀s ∈ aG c,0≤mJ k.tracks s 0∧mJ k.tracks s 0<k.dens.length):Fbo k c=some (mkN (mkrM k) c):=
  aSy k hp FU c (Nat.le_of_lt (aCk (by have:=g.d; omega))) g ht
end Go.Lf
namespace Go.Lf
open Go.OB
def nX:List Str→Nat→List (Str×Int)
  | [],_=>[]
  | s :: l,i=>(s,(i:Int)) :: nX l (i+1)
theorem aBy (s:Str): ∀(l:List Str) (i:Nat),nX (l++ [s]) i=nX l i++ [(s,((i+l.length:Nat):Int))]
  | [],i=>rfl
  | x :: l,i=>by
    rw [List.cons_append,nX,nX,aBy s l (i+1),List.cons_append,List.length_cons,show i+1+l.length=i+(l.length+1) by omega]
theorem aEa (s:Str): ∀(l:List Str) (i:Nat),(nX l i).any (fun p=>decide (p.1=s))=l.any (fun x=>decide (x=s))
  | [],_=>rfl
  | x :: l,i=>by rw [nX,List.any_cons,List.any_cons,aEa s l (i+1)]
theorem mget_cons (k:Str)(v:Int)(l:List (Str×Int))(s:Str):mJ ((k,v) :: l) s 0=if k=s then v else mJ l s 0:=by
  unfold mJ
  rw [List.find?_cons]
  by_cases h:k=s
  · simp [h]
  · simp [h]
theorem aEc (s : Str) : ∀ (l : List Str) (i : Nat), s ∈ l → ∃ j : Nat, mJ (nX l i) s 0 = ((i + j : Nat) : Int) ∧ l[j]? = some s
  | [], _, h => by simp at h
  | x :: l, i, h => by
    rw [nX, mget_cons]
    by_cases c : x = s
    · subst c; exact ⟨0, by rw [if_pos rfl]; rfl, rfl⟩
    · obtain ⟨j, h1, h2⟩ := aEc s l (i + 1) ((List.mem_cons.1 h).resolve_left (Ne.symm c))
      exact ⟨j + 1, by rw [if_neg c, h1]; congr 1; omega, by simpa using h2⟩
def trI (l:List fH)(s:Str):Int:=mJ (nX (l.map fH.Name) 0) s 0
def sZ (l:List fH):List Int:=l.map fun t=>t.Series.Den
theorem trI_ok {l:List fH}{s:Str}(h:s ∈ l.map fH.Name):0≤trI l s∧trI l s<l.length:=by
  obtain ⟨j,h1,h2⟩:=aEc s (l.map fH.Name) 0 h
  have:=(List.getElem?_eq_some_iff.1 h2).1
  rw [List.length_map] at this
  unfold trI; rw [h1]; omega
theorem newL1_ok (l : List fH) (h : aBm l = 0) : Fdh l (l.length : Int) (0, ([] : List (Str × Int)), []) = some (nX (l.map fH.Name) 0, sZ l) := by
  have hl := (aLv h).1
  have pw := names_pw h
  unfold Fdh
  refine aP (fun (i : Nat) => ((i : Int), nX ((l.take i).map fH.Name) 0, sZ (l.take i))) l (some (nX (l.map fH.Name) 0, sZ l)) (by omega) ?_ ?_
  · intro k i x hx hi
    have na : (nX ((l.take i).map fH.Name) 0).any (fun p => decide (p.1 = x.Name)) = false := by
      rw [aEa, List.any_eq_false]
      intro y hy
      obtain ⟨z, hz, rfl⟩ := List.mem_map.1 hy
      obtain ⟨j, hj⟩ := List.getElem?_of_mem hz
      rw [List.getElem?_take] at hj
      split at hj
      · rename_i c
        simpa using aLg h hj hx c
      · cases hj
    simp only [yB]
    rw [wF hi, yU, dP hx, zU, aAt _ _ na, ap8 (by unfold sZ; simp; omega), zU, dE hi (by omega), nU hx, List.map_append, List.map_singleton, aBy]
    unfold sZ
    rw [List.map_append, List.length_map, List.length_take, Nat.zero_add, Nat.min_eq_left (by omega)]
    rfl
  · intro k
    simp only [yB]
    rw [wE, yX, List.take_length]
def MkR (r:Rules)(l:List fH)(i:Nat):Mk:=⟨trI l,fun i=>(at' (sZ l) i).getD 0,fun s=>aDy r.Phases s,fun s=>mJ (nX ((r.Rules.take i).map dH.Name) 0) s 0⟩
def rlN (r:Rules)(l:List fH)(i:Nat)(x:dH):Nd:=mkN (MkR r l i) x.When
def mvN (r:Rules)(l:List fH)(m:aF):fK:=fK.mk (aDy r.Phases m.From) (aDy r.Phases m.To) (mkN (MkR r l 0) m.When)
def aQ (r:Rules)(l:List fH):fF:=
  fF.mk r.Phases (l.length:Int) (r.Moves.map (mvN r l)) (r.Rules.mapIdx (rlN r l)) ((List.replicate r.Phases.length false).set 0 true)
structure GB (r:Rules)(l:List fH):Prop where
  ok:okR r
  c:chk r=some 0
  t:aBm l=0
  n: ∀s ∈ jW r,s ∈ l.map fH.Name
theorem GB.g {r:Rules}{l:List fH}(h:GB r l):Gr' r:=aEm h.ok h.c
theorem nm_mv {r:Rules}{m:aF}(hm:m ∈ r.Moves){s:Str}(hs:s ∈ aG m.When):s ∈ jW r:=by
  unfold jW
  rw [List.mem_append,List.mem_flatMap,List.mem_flatMap]
  exact Or.inl ⟨m,hm,hs⟩
theorem nm_rl {r:Rules}{x:dH}(hm:x ∈ r.Rules){s:Str}(hs:s ∈ aG x.When):s ∈ jW r:=by
  unfold jW
  rw [List.mem_append,List.mem_flatMap,List.mem_flatMap]
  exact Or.inr ⟨x,hm,hs⟩
theorem aMz {r:Rules}{l:List fH}(h:GB r l)(i:Nat){c:Cond}(g:Gt c)(hn: ∀s ∈ aG c,s ∈ jW r):Fbo (fU.mk (nX (l.map fH.Name) 0) (sZ l) r.Phases (nX ((r.Rules.take i).map dH.Name) 0)) c=some (mkN (MkR r l i) c):=by
  have hp:=h.g.p
  refine maker_ok _ (by show r.Phases.length≤_; omega) g fun s hs=>?_
  have:=trI_ok (h.n s (hn s hs))
  show 0≤trI l s∧trI l s<(sZ l).length
  unfold sZ
  rw [List.length_map]; exact this
theorem newL2_ok {r : Rules} {l : List fH} (h : GB r l) : Fdn r (nX (l.map fH.Name) 0) (sZ l) (r.Moves.length : Int) (0, []) = some (r.Moves.map (mvN r l)) := by
  have g := h.g
  have hm := g.m
  have hp := g.p
  unfold Fdn
  refine aP (fun (i : Nat) => ((i : Int), (r.Moves.take i).map (mvN r l))) r.Moves (some (r.Moves.map (mvN r l))) (by omega) ?_ ?_
  · intro k i x hx hi
    have mx := List.mem_of_getElem? hx
    have e := aMz h 0 (g.mg x mx).1 fun s hs => nm_mv mx hs
    rw [List.take_zero] at e
    change Fbo (fU.mk (nX (l.map fH.Name) 0) (sZ l) r.Phases []) x.When = _ at e
    have a32 : app' 32 ((r.Moves.take i).map (mvN r l)) [mvN r l x] = some ((r.Moves.take i).map (mvN r l) ++ [mvN r l x]) := by
      unfold app'
      rw [if_pos ⟨by rw [maxLen_eq]; simp; omega, by simp; omega⟩]
    simp only [yB]
    rw [wF hi, yU, dP hx, zU, (aBg r.Phases x.From (by omega)).1, (aBg r.Phases x.To (by omega)).1, zU, zU, e, zU]
    show gG (app' 32 ((r.Moves.take i).map (mvN r l)) [mvN r l x]) _ = _
    rw [a32, zU, dE hi (by omega), nU hx, List.map_append]
    rfl
  · intro k
    simp only [yB]
    rw [wE, yX, List.take_length]
theorem aLo {α β:Type}(f:Nat→α→β)(l:List α)(x:α):(l++ [x]).mapIdx f=l.mapIdx f++ [f l.length x]:=by
  rw [List.mapIdx_append]; simp
theorem newL3_ok {r : Rules} {l : List fH} (h : GB r l) : Fdw r (nX (l.map fH.Name) 0) (sZ l) (r.Rules.length : Int) (0, ([] : List (Str × Int)), []) = some (r.Rules.mapIdx (rlN r l)) := by
  have g := h.g
  have hl := g.l
  have hr := aPw h.c
  unfold Fdw
  refine aP (fun (i : Nat) => ((i : Int), nX ((r.Rules.take i).map dH.Name) 0, (r.Rules.take i).mapIdx (rlN r l))) r.Rules (some (r.Rules.mapIdx (rlN r l))) (by omega) ?_ ?_
  · intro k i x hx hi
    have mx := List.mem_of_getElem? hx
    have e := aMz h i (g.lg x mx).1 fun s hs => nm_rl mx hs
    have na : (nX ((r.Rules.take i).map dH.Name) 0).any (fun p => decide (p.1 = x.Name)) = false := by
      rw [aEa, List.any_map]
      exact (hr i x hx).1
    have hlen : (r.Rules.take i).length = i := by rw [List.length_take]; omega
    simp only [yB]
    rw [wF hi, yU, dP hx, zU, e, zU, ap16 (by simp; omega), zU, aAt _ _ na, dE hi (by omega), nU hx, aLo, List.map_append, List.map_singleton, aBy, hlen, List.length_map, hlen, Nat.zero_add]
    rfl
  · intro k
    simp only [yB]
    rw [wE, yX, List.take_length]
theorem cloneS_eq (l:List Str)(h:l.length≤1000000):Fcm l=some l:=by
  unfold Fcm
  have e:app' 16 ([]:List Str) l=some l:=by
    unfold app'
    rw [if_pos ⟨by rw [maxLen_eq]; simp; omega,by simp; omega⟩,List.nil_append]
  rw [e]
  cases l with
  | nil=>rfl
  | cons a l=>rfl
theorem aLa {r:Rules}{l:List fH}(h:GB r l):Fbb r l=some (aQ r l):=by
  have hp:=h.g.p
  unfold Fbb
  simp only [yB]
  rw [newL1_ok l h.t,zU]
  dsimp only
  rw [cloneS_eq _ (by omega),zU]
  have mk:make' 1 (r.Phases.length:Int) false=some (List.replicate r.Phases.length false):=by
    unfold make'
    rw [if_pos ⟨by omega,by omega,by omega⟩,Int.toNat_natCast]
  rw [mk,zU,newL2_ok h,newL3_ok h]
  simp only [zU]
  have e:(gQ (decide (0<(r.Phases.length:Int))) (gG (at' (List.replicate r.Phases.length false) 0) fun x632=>gG (set' (List.replicate r.Phases.length false) 0 true) fun x643=>some x643) (some (List.replicate r.Phases.length false)))=some ((List.replicate r.Phases.length false).set 0 true):=by
    cases hP:r.Phases.length with
    | zero=>rfl
    | succ n=>
      rw [decide_eq_true (by omega),yU]
      obtain ⟨x,hx⟩:=aBc (l:=List.replicate (n+1) false) (i:=0) ⟨by omega,by simp⟩
      rw [hx,zU,aPj ⟨by omega,by simp⟩]
      rfl
  rw [e,zU]
  rfl
end Go.Lf
namespace Go.Lf
open Go.OB
theorem mv_ok {r : Rules} (h : chk r = some 0) {m : aF} (hm : m ∈ r.Moves) : m.From ∈ r.Phases ∧ m.To ∈ r.Phases ∧ nS pMv m.When = false := by
  unfold chk at h
  split at h
  · exact absurd (Option.some.inj h) (by decide)
  · obtain ⟨h1, h2⟩ := bH (phE r.Phases) _ _ _ h
    obtain ⟨h3, h4⟩ := bH (fun _ => mvE r) _ _ _ h1
    obtain ⟨i, hi⟩ := List.getElem?_of_mem hm
    have := h4 i m hi
    unfold mvE at this
    split at this
    · rename_i c
      split at this
      · split at this
        · exact absurd this (by decide)
        · rename_i d
          have a : ∀ {s : Str}, (r.Phases.any fun y => decide (s = y)) = true → s ∈ r.Phases := by
            intro s hs
            rw [List.any_eq_true] at hs
            obtain ⟨y, h1, h2⟩ := hs
            rw [of_decide_eq_true h2]; exact h1
          exact ⟨a c.1, a c.2, by simpa using d⟩
      · rename_i d; exact absurd this d
    · exact absurd this (by decide)
theorem idx_ok {r:Rules}{l:List fH}(h:GB r l){s:Str}(hs:s ∈ r.Phases):0≤aDy r.Phases s∧aDy r.Phases s<r.Phases.length:=(aBg r.Phases s (by have:=h.g.p; omega)).2 hs
theorem nmd_mem {l:List dH}{s:Str}(h:nmd l s=true):s ∈ l.map dH.Name:=by
  unfold nmd at h
  rw [List.any_eq_true] at h
  obtain ⟨y,h1,h2⟩:=h
  rw [← of_decide_eq_true h2]
  exact List.mem_map_of_mem h1
theorem rl_named {r : Rules} (i : Nat) {c : Cond} (h : pRl r i c = false) : (c.Kind = 6 → c.Name ∈ r.Phases) ∧ (c.Kind = 7 → c.Name ∈ (r.Rules.take i).map dH.Name) := by
  unfold pRl at h
  rw [Bool.or_eq_false_iff] at h
  refine ⟨fun e => ?_, fun e => ?_⟩
  · have h1 := h.1
    rw [e, decide_eq_true rfl, Bool.true_and, Bool.not_eq_false'] at h1
    rw [List.any_eq_true] at h1
    obtain ⟨y, h2, h3⟩ := h1
    rw [of_decide_eq_true h3]; exact h2
  · have h1 := h.2
    rw [e, decide_eq_true rfl, Bool.true_and, Bool.not_eq_false'] at h1
    exact nmd_mem h1
theorem aSw {r : Rules} {l : List fH} (h : GB r l) : WfW (aQ r l) l.length r.Phases.length := by
  have g := h.g
  have hp := g.p
  have hr := aPw h.c
  have tr : ∀ s ∈ jW r, 0 ≤ trI l s ∧ trI l s < l.length := fun s hs => trI_ok (h.n s hs)
  refine ⟨rfl, by show ((List.replicate _ _).set _ _).length = _; simp, by omega, rfl, by show (r.Moves.map _).length ≤ _; have := g.m; simp; omega, by show (r.Rules.mapIdx _).length ≤ _; have := g.l; simp; omega, fun x hx => ?_, fun i k hk => ?_⟩
  · obtain ⟨m, hm, rfl⟩ := List.mem_map.1 hx
    obtain ⟨m1, m2, m3⟩ := mv_ok h.c hm
    have gm := (g.mg m hm).1
    have d := aJw (MkR r l 0) m.When
    have gd := gm.d
    refine ⟨idx_ok h m2, ?_, by show dpN (mkN (MkR r l 0) m.When) ≤ _; omega⟩
    refine aQf (MkR r l 0) pMv (fun c hc => ?_) (dN m.When) m.When (Nat.le_refl _) gm (fun s hs => tr s (nm_mv hm hs)) m3
    unfold pMv at hc
    constructor
    · intro e; rw [e] at hc; simp at hc
    · intro e; rw [e] at hc; simp at hc
  · change (r.Rules.mapIdx (rlN r l))[i]? = some k at hk
    rw [List.getElem?_mapIdx, Option.map_eq_some_iff] at hk
    obtain ⟨x, hx, rfl⟩ := hk
    have mx := List.mem_of_getElem? hx
    have gx := (g.lg x mx).1
    have d := aJw (MkR r l i) x.When
    have gd := gx.d
    refine ⟨?_, by show dpN (mkN (MkR r l i) x.When) ≤ _; omega⟩
    refine aQf (MkR r l i) (pRl r i) (fun c hc => ?_) (dN x.When) x.When (Nat.le_refl _) gx (fun s hs => tr s (nm_rl mx hs)) (hr i x hx).2
    obtain ⟨q1, q2⟩ := rl_named i hc
    refine ⟨fun e => idx_ok h (q1 e), fun e => ?_⟩
    obtain ⟨j, h1, h2⟩ := aEc c.Name ((r.Rules.take i).map dH.Name) 0 (q2 e)
    have := (List.getElem?_eq_some_iff.1 h2).1
    rw [List.length_map, List.length_take] at this
    show 0 ≤ mJ (nX ((r.Rules.take i).map dH.Name) 0) c.Name 0 ∧ mJ (nX ((r.Rules.take i).map dH.Name) 0) c.Name 0 < (i : Int)
    rw [h1]; omega
end Go.Lf
namespace Go.Lf
open Go.OB
theorem aJk (l : List fH) (s : Str) (hl : l.length ≤ 9223372036854775807) : Fb0 l s = some (l.any fun t => decide (t.Name = s)) := by
  obtain ⟨n, h1, h2⟩ := aKb (fun (_ : Nat) (y : fH) => decide (y.Name = s)) l 0
  have e : Fb2 l s = some n := by
    unfold Fb2
    simp only [yB, wG]
    unfold Feq
    rw [← h1]
    refine wK l _ _ hl ?_ ?_
    · intro kk i x hx hi
      unfold Fd6
      simp only [yB, zU]
      rw [wF hi, yU, dP hx, zU, dE hi hl]
      cases decide (x.Name = s) <;> rfl
    · intro kk; simp only [yB]; rw [wE]; rfl
  have a : ∀ (l : List fH) (i : Nat), jH (fun _ y => decide (y.Name = s)) l i = l.any fun t => decide (t.Name = s) := by
    intro l
    induction l with
    | nil => intro i; rfl
    | cons x l ih => intro i; rw [jH, ih, List.any_cons]
  unfold Fb0
  rw [e]
  simp only [yB, zU, h2, a]
def aBd (r:Rules)(l:List fH):Int:=
  if (chk r).getD 0≠0 then (chk r).getD 0 else if aBm l≠0 then aBm l else if (aLd r).all (fun s=>l.any fun t=>decide (t.Name=s))=true then 0 else 4
theorem aJm {r:Rules}(g:Gr' r):Fbh r=some (aLd r):=by
  rw [aNe g,aMt]; rfl
theorem aKa {r : Rules} {l : List fH} (ok : okR r) (hl : okL sN l) : Fb3 r l = some (aBd r l) := by
  obtain ⟨e, he⟩ := aNm r
  unfold Fb3 aBd
  rw [Check_eq r ok, he, zU]
  simp only [yB, Option.getD_some, wC]
  by_cases z : e = 0
  · subst z
    have g := aEm ok he
    rw [if_neg (by simp), if_neg (by simp), aDv l hl, aRl, zU]
    by_cases y : aBm l = 0
    · rw [if_neg (by simpa using y), if_neg (by simpa using y), wG, aJm g, zU]
      have hn := trkN_len g
      unfold Ffd
      rw [wK (aLd r) (fun _ s => if (l.any fun t => decide (t.Name = s)) = true then none else some (some 4)) (some 0) (by omega) ?_ ?_]
      · have key : ∀ (ls : List Str) (i : Nat), bD (fun _ s => if (l.any fun t => decide (t.Name = s)) = true then none else some (some (4 : Int))) (some 0) ls i = some (if ls.all (fun s => l.any fun t => decide (t.Name = s)) = true then 0 else 4) := by
          intro ls
          induction ls with
          | nil => intro i; rfl
          | cons s ls ih =>
            intro i
            rw [bD, List.all_cons]
            cases (l.any fun t => decide (t.Name = s))
            · rfl
            · simpa using ih (i + 1)
        rw [key]
      · intro kk i x hx hi
        simp only [yB]
        rw [wF hi, yU, dP hx, zU, aJk l x hl.1, zU, dE hi (by omega)]
        cases (l.any fun t => decide (t.Name = x)) <;> rfl
      · intro kk
        simp only [yB]
        rw [wE, yX]
    · rw [if_pos y, if_pos y]
  · rw [if_pos z, if_pos z]
theorem aQj {r : Rules} {l : List fH} (ok : okR r) (h : aBd r l = 0) : GB r l := by
  obtain ⟨e, he⟩ := aNm r
  unfold aBd at h
  rw [he] at h
  simp only [Option.getD_some] at h
  by_cases z : e = 0
  · subst z
    rw [if_neg (by simp)] at h
    by_cases y : aBm l = 0
    · rw [if_neg (by simpa using y)] at h
      split at h
      · rename_i a
        refine ⟨ok, he, y, fun s hs => ?_⟩
        rw [List.all_eq_true] at a
        have m : s ∈ aLd r := by unfold aLd; rw [aBj]; exact Or.inr hs
        have := a s m
        rw [List.any_eq_true] at this
        obtain ⟨t, h1, h2⟩ := this
        rw [← of_decide_eq_true h2]
        exact List.mem_map_of_mem h1
      · exact absurd h (by decide)
    · rw [if_pos y] at h; exact absurd h y
  · rw [if_pos z] at h; exact absurd h z
def aDz (a b:Int):Int:=if a<0∨b<a∨4194304≤b then 9 else if 20000<b - a+1 then 3 else 0
theorem aSj {a b : Int} (h : aDz a b = 0) : 0 ≤ a ∧ a ≤ b ∧ b ≤ 4194303 ∧ b - a + 1 ≤ 20000 := by
  unfold aDz at h
  split at h
  · exact absurd h (by decide)
  · split at h
    · exact absurd h (by decide)
    · omega
def evE (r:Rules)(l:List fH)(a b:Int):Int:=if aBd r l≠0 then aBd r l else aDz a b
def phL:List Bool→List Str→List Str
  | true :: bs,s :: ss=>s :: phL bs ss
  | false :: bs,_ :: ss=>phL bs ss
  | _,_=>[]
theorem aEx (b:Bool)(s:Str): ∀(bs:List Bool) (ss:List Str),bs.length=ss.length→phL (bs++ [b]) (ss++ [s])=phL bs ss++if b=true then [s] else []
  | [],[],_=>by cases b<;>rfl
  | [],_ :: _,h=>by simp at h
  | _ :: _,[],h=>by simp at h
  | true :: bs,x :: ss,h=>by
    rw [List.cons_append,List.cons_append,phL,phL,aEx b s bs ss (by simpa using h),List.cons_append]
  | false :: bs,x :: ss,h=>by
    rw [List.cons_append,List.cons_append,phL,phL,aEx b s bs ss (by simpa using h)]
theorem aJj: ∀(bs:List Bool) (ss:List Str),(phL bs ss).length≤ss.length
  | [],ss=>by simp [phL]
  | b :: bs,[]=>by cases b<;>simp [phL]
  | true :: bs,x :: ss=>by rw [phL,List.length_cons,List.length_cons]; have:=aJj bs ss; omega
  | false :: bs,x :: ss=>by rw [phL,List.length_cons]; have:=aJj bs ss; omega
theorem Phase_eq {w : fF} {T P : Nat} (h : WfW w T P) : Fa0 w = some (phL w.possible w.phases) := by
  have hb := h.pb
  have h1 := h.po
  have h2 := h.ph
  unfold Fa0 Fe7
  rw [yB]
  refine (congrArg (fun o => gG o fun g => some g) (aP (fun (i : Nat) => (phL (w.possible.take i) (w.phases.take i), (i : Int))) w.possible (some (phL w.possible w.phases)) (by omega) ?_ ?_)).trans (zU _ _)
  · intro k i x hx hi
    have hi2 : i < w.phases.length := by omega
    have hs : w.phases[i]? = some w.phases[i] := List.getElem?_eq_getElem hi2
    have hl := aJj (w.possible.take i) (w.phases.take i)
    have ht : (w.phases.take i).length ≤ w.phases.length := by rw [List.length_take]; omega
    simp only [yB]
    rw [wF hi, yU, dP hx, dP hs, dE hi (by omega), nU hx, nU hs, aEx _ _ _ _ (by simp; omega)]
    simp only [zU]
    cases x
    · simp [gQ, gG]
    · rw [yU, ap16 (by omega), zU]; rfl
  · intro k
    simp only [yB]
    rw [wE, yX, List.take_length, List.take_of_length_le (by omega)]
end Go.Lf
namespace Go.Lf
open Go.OB
def tel (l:List fH)(a:Int)(k:Nat):List eH:=l.map (inT (a+(k:Int)))
theorem aJv (l:List fH)(a:Int)(k:Nat):(tel l a k).length=l.length:=by unfold tel; rw [List.length_map]
def spn (a b:Int):Nat:=(b - a+1).toNat
def cols (m:Nat)(rows:List (List Int)):List (List Int):=(List.range m).map fun i=>rows.map fun row=>row.getD i 0
theorem aFs {m:Nat}{rows:List (List Int)}{i:Nat}(h:i<m):(cols m rows)[i]? =some (rows.map fun row=>row.getD i 0):=by
  unfold cols
  rw [List.getElem?_map,List.getElem?_range h]; rfl
theorem rD (m:Nat)(rows:List (List Int)):(cols m rows).length=m:=by unfold cols; simp
theorem EvL_ok (v : List Int) (ph : List Str) (m : Nat) (rows : List (List Int)) (hv : v.length = m) (hm : m ≤ 1000) (hr : rows.length ≤ 100000) : Fck v ph (cols m rows) = some (cols m (rows ++ [v])) := by
  unfold Fck Fet
  rw [yB]
  have st : ∀ i, i < m → (cols m (rows ++ [v])).take i ++ (cols m rows).drop i = (cols m (rows ++ [v])).take i ++ (rows.map fun row => row.getD i 0) :: (cols m rows).drop (i + 1) := fun i hi => by
    rw [List.drop_eq_getElem_cons (by rw [rD]; exact hi)]
    have := aFs (rows := rows) hi
    rw [List.getElem?_eq_getElem (by rw [rD]; exact hi)] at this
    rw [Option.some.inj this]
  refine (aP (fun (i : Nat) => ((i : Int), (cols m (rows ++ [v])).take i ++ (cols m rows).drop i)) v (some (cols m (rows ++ [v]))) (by omega) ?_ ?_)
  · intro k i x hx hi
    have hlen : ((cols m (rows ++ [v])).take i).length = i := by rw [List.length_take, rD]; omega
    have hx2 : v.getD i 0 = x := by rw [List.getD_eq_getElem?_getD, hx]; rfl
    have nw : (cols m (rows ++ [v]))[i]? = some ((rows.map fun row => row.getD i 0) ++ [x]) := by
      rw [aFs (by omega), List.map_append, List.map_singleton, hx2]
    simp only [yB]
    rw [wF hi, yU, dP hx, st i (by omega), aJp _ _ _ i hlen]
    simp only [zU]
    rw [ap8 (by rw [List.length_map]; omega), zU, aIo _ _ _ _ i hlen, zU, dE hi (by omega), nU nw, List.append_assoc]
    rfl
  · intro k
    simp only [yB]
    rw [hv, wE, yX, List.take_of_length_le (by rw [rD]; exact Nat.le_refl _), List.drop_eq_nil_of_le (by rw [rD]; exact Nat.le_refl _), List.append_nil]
theorem frame_ok {r:Rules}{l:List fH}(h:GB r l){a:Int}(k:Nat)(h0:0≤a)(h1:a+k≤4194303):
    Fbl l (a+(k:Int))=some (tel l a k)∧Fa7 (runT (tel l a) (aQ r l) k).2 (tel l a k)=some (nxt (tel l a k) (runT (tel l a) (aQ r l) k).2)∧
    Fa0 (nxt (tel l a k) (runT (tel l a) (aQ r l) k).2).2=some (phL (runT (tel l a) (aQ r l) (k+1)).2.possible r.Phases):=by
  have w0:=aSw h
  have wk:=aKk (f:=tel l a) w0 (aJv l a) k
  obtain ⟨n1,n2,n3,n4⟩:=aQu wk (aJv l a k)
  refine ⟨inputs_eq l _ h.t (by omega) (by omega),n1,?_⟩
  rw [Phase_eq n2]
  have e: ∀n,(runT (tel l a) (aQ r l) n).2.phases=r.Phases:=by
    intro n
    induction n with
    | zero=>rfl
    | succ n ih=>exact ih
  have e1:=e (k+1)
  change (nxt (tel l a k) (runT (tel l a) (aQ r l) k).2).2.phases=_ at e1
  rw [e1]; rfl
theorem run_rl {r:Rules}{l:List fH}(f:Nat→List eH): ∀n,(runT f (aQ r l) n).2.rules.length=r.Rules.length
  | 0=>by show (r.Rules.mapIdx _).length=_; simp
  | n+1=>by
    show (nxt (f n) (runT f (aQ r l) n).2).2.rules.length=_
    rw [(aKp _ _).2,run_rl f n]
theorem span_bind (a b : Int) (K : Bool → Option (Int × List (List Int))) : (gG (gK (decide (a < 0)) fun x75 => gG (gQ x75 (some true) (gK (decide (b < a)) fun x81 => some x81)) fun j77 => gQ j77 (some true) (gK (decide (4194304 ≤ b)) fun x84 => some x84)) K) = K (decide (a < 0 ∨ b < a ∨ 4194304 ≤ b)) := by
  simp only [yB]
  by_cases h1 : a < 0
  · rw [decide_eq_true h1, decide_eq_true (Or.inl h1)]; rfl
  · rw [decide_eq_false h1]
    by_cases h2 : b < a
    · rw [decide_eq_true h2, decide_eq_true (Or.inr (Or.inl h2))]; rfl
    · rw [decide_eq_false h2]
      by_cases h3 : 4194304 ≤ b
      · rw [decide_eq_true h3, decide_eq_true (Or.inr (Or.inr h3))]; rfl
      · rw [decide_eq_false h3, decide_eq_false (by omega)]; rfl
theorem wr_span {a b:Int}(h:0≤a∧a≤b∧b≤4194303):IntKind.i64.wrap (IntKind.i64.wrap (b - a)+1)=b - a+1:=by
  rw [wrap_i64 (n:=b - a) (by omega) (by omega),wrap_i64 (by omega) (by omega)]
def evV (r:Rules)(l:List fH)(a b:Int):List (List Int):=cols r.Rules.length (runT (tel l a) (aQ r l) (spn a b)).1
theorem evalL_ok {r : Rules} {l : List fH} (h : GB r l) {a b : Int} (hs : aDz a b = 0) :
    Fcs l b (a, cols r.Rules.length [], (aQ r l).phases, (aQ r l).tracks, (aQ r l).moves, (aQ r l).rules, (aQ r l).possible) = some (evV r l a b) := by
  obtain ⟨s1, s2, s3, s4⟩ := aSj hs
  have hl := h.g.l
  have hn : spn a b = (b - a + 1).toNat := rfl
  unfold Fcs
  rw [show (a, cols r.Rules.length [], (aQ r l).phases, (aQ r l).tracks, (aQ r l).moves, (aQ r l).rules, (aQ r l).possible) = (a + ((0 : Nat) : Int), cols r.Rules.length [], (aQ r l).phases, (aQ r l).tracks, (aQ r l).moves, (aQ r l).rules, (aQ r l).possible) by simp]
  refine aP (β := List (List Int)) (γ := Int × List (List Int) × List Str × Int × List fK × List Nd × List Bool) (fun i => (a + (i : Int), cols r.Rules.length (runT (tel l a) (aQ r l) i).1, (runT (tel l a) (aQ r l) i).2.phases, (runT (tel l a) (aQ r l) i).2.tracks, (runT (tel l a) (aQ r l) i).2.moves, (runT (tel l a) (aQ r l) i).2.rules, (runT (tel l a) (aQ r l) i).2.possible)) (List.replicate (spn a b) ()) (some (evV r l a b)) (by simp; omega) (fun k i x hx hi => ?_) (fun k => ?_)
  · rw [List.length_replicate] at hi
    obtain ⟨f1, f2, f3⟩ := frame_ok h (a := a) i s1 (by omega)
    simp only [yB]
    rw [decide_eq_true (by omega : a + (i : Int) ≤ b), yU, f1, zU]
    show gG (Fa7 (runT (tel l a) (aQ r l) i).2 (tel l a i)) _ = _
    rw [f2, zU]
    show gG (Fa0 (nxt (tel l a i) (runT (tel l a) (aQ r l) i).2).2) _ = _
    rw [f3, zU, EvL_ok _ _ _ _ (by rw [(aKp _ _).1, run_rl]) (by omega) (by rw [aEy]; omega), zU, wrap_i64 (by omega) (by omega)]
    rw [show a + (i : Int) + 1 = a + ((i + 1 : Nat) : Int) by omega]
    rfl
  · rw [List.length_replicate]
    simp only [yB]
    rw [decide_eq_false (by omega : ¬ a + ((spn a b : Nat) : Int) ≤ b), yX]
    rfl
theorem aCl {r : Rules} {l : List fH} (ok : okR r) (hl : okL sN l) (hr : r.Rules.length ≤ 2000000) {a b : Int} (ha : i64 a) (hb : i64 b) : Fa2 r l a b = some (if evE r l a b = 0 then (evV r l a b, 0) else ([], evE r l a b)) := by
  have mk : make' 24 (r.Rules.length : Int) ([] : List Int) = some (cols r.Rules.length []) := by
    unfold make'
    rw [if_pos ⟨by omega, by omega, by omega⟩, Int.toNat_natCast]
    unfold cols
    congr 1
    apply List.ext_getElem?
    intro i
    rw [List.getElem?_replicate, List.getElem?_map]
    by_cases c : i < r.Rules.length
    · rw [if_pos c, List.getElem?_range c]; rfl
    · rw [if_neg c, List.getElem?_eq_none (by simp; omega)]; rfl
  unfold Fa2
  simp only [yB]
  rw [mk, zU]
  have key : ∃ z, Fcp r l a b (cols r.Rules.length []) = some (evE r l a b, z) ∧ (evE r l a b = 0 → z = evV r l a b) := by
    unfold Fcp
    rw [aKa ok hl, zU]
    simp only [yB]
    unfold evE
    by_cases z : aBd r l = 0
    · have g := aQj ok z
      rw [decide_eq_false (by simpa using z), yX, if_neg (by simpa using z)]
      have sb := span_bind a b (fun g72 => gQ g72 (some (9, cols r.Rules.length [])) (gQ (decide (20000 < IntKind.i64.wrap (IntKind.i64.wrap (b - a) + 1))) (some (3, cols r.Rules.length [])) (gG (Fbb r l) fun x110 => gG (Fcs l b (a, cols r.Rules.length [], x110.phases, x110.tracks, x110.moves, x110.rules, x110.possible)) fun g362 => some (0, g362))))
      simp only [yB] at sb
      rw [sb]
      unfold aDz
      by_cases c : a < 0 ∨ b < a ∨ 4194304 ≤ b
      · rw [decide_eq_true c, yU, if_pos c]
        exact ⟨_, rfl, fun h => absurd h (by decide)⟩
      · rw [decide_eq_false c, yX, if_neg c, wr_span (by omega)]
        by_cases d : 20000 < b - a + 1
        · rw [decide_eq_true d, yU, if_pos d]
          exact ⟨_, rfl, fun h => absurd h (by decide)⟩
        · rw [decide_eq_false d, yX, if_neg d, aLa g, zU, evalL_ok g (by unfold aDz; rw [if_neg c, if_neg d]), zU]
          exact ⟨_, rfl, fun _ => rfl⟩
    · rw [decide_eq_true (by simpa using z), yU, if_pos (by simpa using z)]
      exact ⟨_, rfl, fun h => absurd h z⟩
  obtain ⟨z, h1, h2⟩ := key
  rw [h1, zU]
  simp only []
  by_cases c : evE r l a b = 0
  · rw [h2 c, c, if_pos rfl]; rfl
  · rw [decide_eq_true (by simpa using c), yU, if_neg c]
theorem ev_gb {r:Rules}{l:List fH}(ok:okR r){a b:Int}(h:evE r l a b=0):GB r l∧aDz a b=0:=by
  unfold evE at h
  split at h
  · rename_i c; exact absurd h c
  · rename_i c; exact ⟨aQj ok (by simpa using c),h⟩
end Go.Lf
