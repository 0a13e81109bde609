/- Walks: what each function computes, for every argument; no condition but those that stand in the statements. -/
import Derived.Test.YtnajnkghilemhaaGreatDoorICa
import Derived.Test.YtnajnkghilemhaaGreatDoorOpr
namespace Go.Lf
open Go.OB
def ctr (op : Int) : Int := if op = 1 then 5 else if op = 2 then 6 else if op = 3 then 4 else if op = 4 then 3 else if op = 5 then 1 else 2
def swp (k : Int) : Int := if k = 1 then 2 else if k = 2 then 1 else if k = 9 then 10 else if k = 10 then 9 else if k = 11 then 12 else if k = 12 then 11 else 0
def kp (k : Int) : Bool := decide (k = 6) || decide (k = 7) || decide (k = 5) || decide (k = 14) || decide (k = 15)
def top1 (b : Bool) (k : Int) (nm ot : Str) (op n fr : Int) (ks : List Cond) : Cond :=
  if kp k = true then if b = true then ⟨8, [], [], 0, 0, 0, [⟨k, nm, ot, op, n, fr, ks⟩]⟩ else ⟨k, nm, ot, op, n, fr, ks⟩
  else if b = true then
    if k = 3 ∨ k = 4 then ⟨k, nm, ot, ctr op, n, fr, ks⟩
    else if k = 13 then ⟨k, nm, ot, op, fr + 1 - n, fr, ks⟩
    else ⟨swp k, nm, ot, op, n, fr, ks⟩
  else ⟨k, nm, ot, op, n, fr, ks⟩
mutual
def inw : Bool → Cond → Cond
  | b, ⟨k, nm, ot, op, n, fr, ks⟩ => if k = 8 then inwh b ks else top1 b k nm ot op n fr (inws (if kp k = true then false else b) ks)
def inwh : Bool → List Cond → Cond
  | _, [] => ⟨0, [], [], 0, 0, 0, []⟩
  | b, c :: _ => inw (!b) c
def inws : Bool → List Cond → List Cond
  | _, [] => []
  | b, c :: l => inw b c :: inws b l
end
theorem inws_map (b : Bool) : ∀ l : List Cond, inws b l = l.map (inw b)
  | [] => rfl
  | c :: l => by rw [inws, inws_map b l]; rfl
theorem inw_8 (b : Bool) (c x : Cond) (h : c.Kind = 8) (hx : c.Kids[0]? = some x) : inw b c = inw (!b) x := by
  obtain ⟨k, nm, ot, op, n, fr, ks⟩ := c
  simp only at h hx
  rw [inw, if_pos h]
  cases ks with
  | nil => cases hx
  | cons y l => obtain rfl := Option.some.inj hx; rw [inwh]
theorem inw_n (b : Bool) (c : Cond) (h : c.Kind ≠ 8) : inw b c = top1 b c.Kind c.Name c.Other c.Op c.N c.Frames (c.Kids.map (inw (if kp c.Kind = true then false else b))) := by
  obtain ⟨k, nm, ot, op, n, fr, ks⟩ := c
  rw [inw, if_neg h, inws_map]
/-! ### What is known of it -/
theorem ck_kids (k : Int) (nm ot : Str) (op n fr : Int) (ks ls : List Cond) (h : ks.length = ls.length) : F_ref6_nodeFault ⟨k, nm, ot, op, n, fr, ks⟩ = F_ref6_nodeFault ⟨k, nm, ot, op, n, fr, ls⟩ := by
  unfold F_ref6_nodeFault
  simp only [h]
set_option maxHeartbeats 20000000 in
theorem ck_sw (nm ot : Str) (op n fr : Int) (ks : List Cond) (k : Int) (hk2 : k = 1 ∨ k = 2 ∨ k = 9 ∨ k = 10 ∨ k = 11 ∨ k = 12) (h1 : okS nm) (h2 : okS ot) (h : F_ref6_nodeFault ⟨k, nm, ot, op, n, fr, ks⟩ = some 0) : F_ref6_nodeFault ⟨swp k, nm, ot, op, n, fr, ks⟩ = some 0 := by
  have w1 : swp 1 = 2 := rfl
  have w2 : swp 2 = 1 := rfl
  have w9 : swp 9 = 10 := rfl
  have w10 : swp 10 = 9 := rfl
  have w11 : swp 11 = 12 := rfl
  have w12 : swp 12 = 11 := rfl
  rcases hk2 with rfl | rfl | rfl | rfl | rfl | rfl <;>
    (simp only [w1, w2, w9, w10, w11, w12]
     unfold F_ref6_nodeFault at h ⊢
     simp only [if_pos, reduceIte, rf1, rf2, rf3, rf4, rf8, rf9, rf10, rf11, rf12, rf13, yO, yV, Bool.not_true, Bool.not_false, xQ, xP, joinO_eq, out6, rIsName_eq _ h1, rIsName_eq _ h2, Int.reduceEq, Int.reduceLT, Int.reduceLE, decide_true, decide_false, Bool.or_self, iteB_or, iteB_or2, iteB_and] at h ⊢
     simp only [iteB_ite] at h ⊢
     exact h)
theorem ck_op (nm ot : Str) (op n fr : Int) (ks : List Cond) (k : Int) (hk2 : k = 3 ∨ k = 4) (h1 : okS nm) (h2 : okS ot) (h : F_ref6_nodeFault ⟨k, nm, ot, op, n, fr, ks⟩ = some 0) : F_ref6_nodeFault ⟨k, nm, ot, ctr op, n, fr, ks⟩ = some 0 := by
  have w : decide (ctr op < 1) = false := decide_eq_false (by unfold ctr; omega)
  have w2 : decide (6 < ctr op) = false := decide_eq_false (by unfold ctr; omega)
  rcases hk2 with rfl | rfl <;>
    (unfold F_ref6_nodeFault at h ⊢
     simp only [if_pos, reduceIte, rf1, rf2, rf3, rf4, rf8, rf9, rf10, rf11, rf12, rf13, yO, yV, Bool.not_true, Bool.not_false, xQ, xP, joinO_eq, out6, rIsName_eq _ h1, rIsName_eq _ h2, Int.reduceEq, Int.reduceLT, Int.reduceLE, decide_true, decide_false, Bool.or_self, iteB_or, iteB_or2, iteB_and] at h ⊢
     simp only [w, w2]
     simp only [iteB_ite] at h ⊢
     grind)
theorem ck_13 (nm ot : Str) (op n fr : Int) (ks : List Cond) (h1 : okS nm) (h2 : okS ot) (h : F_ref6_nodeFault ⟨13, nm, ot, op, n, fr, ks⟩ = some 0) : F_ref6_nodeFault ⟨13, nm, ot, op, fr + 1 - n, fr, ks⟩ = some 0 ∧ 1 ≤ n ∧ n ≤ fr := by
  unfold F_ref6_nodeFault at h ⊢
  simp only [if_pos, reduceIte, rf1, rf2, rf3, rf4, rf8, rf9, rf10, rf11, rf12, rf13, yO, yV, Bool.not_true, Bool.not_false, xQ, xP, joinO_eq, out6, rIsName_eq _ h1, rIsName_eq _ h2, Int.reduceEq, Int.reduceLT, Int.reduceLE, decide_true, decide_false, Bool.or_self, iteB_or, iteB_or2, iteB_and] at h ⊢
  simp only [iteB_ite] at h ⊢
  refine ⟨?_, ?_, ?_⟩ <;> grind
theorem ck_8 (nm ot : Str) (op n fr : Int) (ks : List Cond) (h1 : okS nm) (h2 : okS ot) (h : F_ref6_nodeFault ⟨8, nm, ot, op, n, fr, ks⟩ = some 0) : ks.length = 1 := by
  unfold F_ref6_nodeFault at h
  simp only [if_pos, reduceIte, rf1, rf2, rf3, rf4, rf8, rf9, rf10, rf11, rf12, rf13, yO, yV, Bool.not_true, Bool.not_false, xQ, xP, joinO_eq, out6, rIsName_eq _ h1, rIsName_eq _ h2, Int.reduceEq, Int.reduceLT, Int.reduceLE, decide_true, decide_false, Bool.or_self, iteB_or, iteB_or2, iteB_and] at h
  simp only [iteB_ite] at h
  grind
theorem ck_not (x : Cond) : F_ref6_nodeFault ⟨8, [], [], 0, 0, 0, [x]⟩ = some 0 := by
  unfold F_ref6_nodeFault
  simp only [rf8, yO, yV, Bool.not_true, Bool.not_false, xQ, xP, joinO_eq, out6, Int.reduceEq, Int.reduceLT, Int.reduceLE, decide_true, decide_false, Bool.or_self, iteB_or, iteB_or2, iteB_and, List.length_singleton]
  rfl
end Go.Lf
namespace Go.Lf
open Go.OB
theorem ck1_eq {c : Cond} (g : Gt c) : F_ref6_nodeFault c = some 0 := by
  have h := g.e
  rw [fE_eq] at h
  split at h
  · rename_i q
    have e := (ck_both c (okN_of g.ok) g.kids).2
    rwa [q] at e
  · rename_i q; exact absurd h q
theorem kid8 {c : Cond} (g : Gt c) (h : c.Kind = 8) : ∃ x, c.Kids[0]? = some x := by
  have e := ck1_eq g
  have o := okN_of g.ok
  obtain ⟨k, nm, ot, op, n, fr, ks⟩ := c
  simp only at h
  subst h
  have := ck_8 nm ot op n fr ks o.1 o.2 e
  exact ⟨_, List.getElem?_eq_getElem (by simp only; omega)⟩
theorem kp_iff (k : Int) : kp k = true ↔ k = 6 ∨ k = 7 ∨ k = 5 ∨ k = 14 ∨ k = 15 := by
  unfold kp
  simp only [Bool.or_eq_true, decide_eq_true_eq, or_assoc]
structure Gk (l : List Cond) : Prop where
  ok : ∀ x ∈ l, okC x
  e : ∀ x ∈ l, fE ck1 x = 0
theorem fEs_0 (f : Cond → Int) : ∀ l : List Cond, (∀ x ∈ l, fE f x = 0) → fEs f l = 0
  | [], _ => rfl
  | c :: l, h => by rw [fEs, if_pos (h c List.mem_cons_self)]; exact fEs_0 f l fun x hx => h x (List.mem_cons_of_mem _ hx)
theorem okS0 : okS ([] : Str) := by unfold okS; simp
theorem i0 : i64 0 := ⟨by decide, by decide⟩
theorem i8 : i64 8 := ⟨by decide, by decide⟩
theorem i64_of {n : Int} (h1 : -9223372036854775808 ≤ n) (h2 : n ≤ 9223372036854775807) : i64 n := ⟨h1, h2⟩
theorem ck1_0 {c : Cond} (h : F_ref6_nodeFault c = some 0) : ck1 c = 0 := by unfold ck1; rw [h]; rfl
theorem fE_0 {c : Cond} (h : F_ref6_nodeFault c = some 0) (hk : ∀ x ∈ c.Kids, fE ck1 x = 0) : fE ck1 c = 0 := by
  rw [fE_eq, if_pos (ck1_0 h)]; exact fEs_0 _ _ hk
theorem top_ok {k : Int} {nm ot : Str} {op n fr : Int} {ks : List Cond} (b : Bool) (o1 : okS nm) (o2 : okS ot) (g : Gd ⟨k, nm, ot, op, n, fr, ks⟩) (h : F_ref6_nodeFault ⟨k, nm, ot, op, n, fr, ks⟩ = some 0) (h8 : k ≠ 8) (hl : ks.length ≤ 200) (hk : Gk ks) : okC (top1 b k nm ot op n fr ks) ∧ fE ck1 (top1 b k nm ot op n fr ks) = 0 := by
  have hk1 := g.k1
  have hop := g.op
  have hn := g.n
  have hfr := g.fr
  simp only at hk1 hop hn hfr
  have okk : ∀ {k' op' n' : Int}, i64 k' → i64 op' → i64 n' → okC ⟨k', nm, ot, op', n', fr, ks⟩ := fun a1 a2 a3 => (okC_eq _).2 ⟨⟨a1, o1, o2, a2, a3, i64_of (by simp only; omega) (by simp only; omega)⟩, by simp only; omega, (okCs_iff _).2 hk.ok⟩
  have base : okC ⟨k, nm, ot, op, n, fr, ks⟩ := okk (by unfold i64; omega) (by unfold i64; omega) (by unfold i64; omega)
  have base2 : fE ck1 ⟨k, nm, ot, op, n, fr, ks⟩ = 0 := fE_0 h hk.e
  unfold top1
  split
  · split
    · refine ⟨(okC_eq _).2 ⟨⟨i8, okS0, okS0, i0, i0, i0⟩, by simp, (okCs_iff _).2 fun x hx => ?_⟩, fE_0 (ck_not _) fun x hx => ?_⟩
      · obtain rfl := List.mem_singleton.1 hx; exact base
      · obtain rfl := List.mem_singleton.1 hx; exact base2
    · exact ⟨base, base2⟩
  · rename_i q
    rw [kp_iff] at q
    split
    · split
      · rename_i q2
        exact ⟨okk (by unfold i64; omega) (by unfold ctr i64; omega) (by unfold i64; omega), fE_0 (ck_op nm ot op n fr ks k q2 o1 o2 h) hk.e⟩
      · split
        · rename_i q3
          subst q3
          obtain ⟨h1, h2, h3⟩ := ck_13 nm ot op n fr ks o1 o2 h
          exact ⟨okk (by unfold i64; omega) (by unfold i64; omega) (by unfold i64; omega), fE_0 h1 hk.e⟩
        · rename_i q4 q5
          have hk2 : k = 1 ∨ k = 2 ∨ k = 9 ∨ k = 10 ∨ k = 11 ∨ k = 12 := by omega
          exact ⟨okk (by unfold swp i64; omega) (by unfold i64; omega) (by unfold i64; omega), fE_0 (ck_sw nm ot op n fr ks k hk2 o1 o2 h) hk.e⟩
    · exact ⟨base, base2⟩
theorem inw_ok : ∀ (m : Nat) (b : Bool) (c : Cond), dN c ≤ m → Gt c → okC (inw b c) ∧ fE ck1 (inw b c) = 0
  | 0, _, c, h, _ => by have := dN_pos c; omega
  | m + 1, b, c, h, g => by
    by_cases h8 : c.Kind = 8
    · obtain ⟨x, hx⟩ := kid8 g h8
      obtain ⟨k1, k2, k3⟩ := kid_ok g.ok hx
      rw [inw_8 b c x h8 hx]
      exact inw_ok m (!b) x (by omega) (g.kid (List.mem_of_getElem? hx))
    · rw [inw_n b c h8]
      have gl := g.kids
      have hm : ∀ x ∈ c.Kids.map (inw (if kp c.Kind = true then false else b)), okC x ∧ fE ck1 x = 0 := by
        intro x hx
        obtain ⟨y, hy, rfl⟩ := List.mem_map.1 hx
        obtain ⟨j, hj⟩ := List.getElem?_of_mem hy
        obtain ⟨k1, k2, k3⟩ := kid_ok g.ok hj
        exact inw_ok m _ y (by omega) (g.kid hy)
      have e := ck1_eq g
      have s := g.self
      have o := okN_of g.ok
      obtain ⟨k, nm, ot, op, n, fr, ks⟩ := c
      simp only at gl hm
      refine top_ok b o.1 o.2 ⟨s.k1, s.nm, s.ot, s.op, s.n, s.fr⟩ ?_ h8 (by simp only [List.length_map]; omega) ⟨fun x hx => (hm x hx).1, fun x hx => (hm x hx).2⟩
      rw [ck_kids _ _ _ _ _ _ _ ks (by simp)]
      exact e
/-! ### Both programs make it -/
theorem mget_6 (k : Int) : mget [((1 : Int), (2 : Int)), (2, 1), (9, 10), (10, 9), (11, 12), (12, 11)] k 0 = swp k := by
  unfold mget swp
  simp only [List.find?_cons, List.find?_nil, eq_comm (a := k)]
  by_cases h1 : 1 = k
  · simp [h1]
  by_cases h2 : 2 = k
  · simp [h1, h2]
  by_cases h3 : 9 = k
  · simp [h1, h2, h3]
  by_cases h4 : 10 = k
  · simp [h1, h2, h3, h4]
  by_cases h5 : 11 = k
  · simp [h1, h2, h3, h4, h5]
  by_cases h6 : 12 = k
  · simp [h1, h2, h3, h4, h5, h6]
  · simp [h1, h2, h3, h4, h5, h6]
theorem contrary_eq (op : Int) : F_event_contrary op = some (ctr op) ∧ F_ref6_contrary op = some (ctr op) := by
  unfold F_event_contrary F_ref6_contrary ctr
  simp only [yV, iteB_dec]
  refine ⟨?_, ?_⟩ <;> (repeat' split) <;> rfl
theorem kp_bind (k : Int) : (letO (decide (k = 6)) fun x173 => iteB x173 (some x173) (letO (decide (k = 7)) fun x177 => iteB x177 (some x177) (letO (decide (k = 5)) fun x181 => iteB x181 (some x181) (letO (decide (k = 14)) fun x185 => iteB x185 (some x185) (letO (decide (k = 15)) fun x188 => some x188))))) = some (kp k) := by
  unfold kp
  simp only [yV, iteB_id, Bool.or_assoc]
  cases decide (k = 6) <;> cases decide (k = 7) <;> cases decide (k = 5) <;> cases decide (k = 14) <;> rfl
theorem or_bind (p q : Bool) : (letO p fun x => iteB x (some x) (letO q fun x => some x)) = some (p || q) := by
  simp only [yV]
  cases p <;> rfl
theorem inward_R : ∀ (m : Nat) (b : Bool) (c : Cond), dN c ≤ m → Gt c → F_event_inward_R m c b = some (inw b c)
  | 0, _, c, h, _ => by have := dN_pos c; omega
  | m + 1, b, c, h, g => by
    have hl := g.kids
    show F_event_inward_B (F_event_inward_R m) c b = _
    unfold F_event_inward_B
    have e0 : ∀ K : List (Int × Int) → Option Cond, (bindO (mput ([] : List (Int × Int)) 1 2) fun x15 => bindO (mput x15 2 1) fun x18 => bindO (mput x18 9 10) fun x21 => bindO (mput x21 10 9) fun x24 => bindO (mput x24 11 12) fun x27 => bindO (mput x27 12 11) fun x30 => K x30) = K [((1 : Int), (2 : Int)), (2, 1), (9, 10), (10, 9), (11, 12), (12, 11)] := fun _ => rfl
    rw [e0]
    simp only [yV]
    by_cases h8 : c.Kind = 8
    · obtain ⟨x, hx⟩ := kid8 g h8
      obtain ⟨k1, k2, k3⟩ := kid_ok g.ok hx
      rw [decide_eq_true h8, xQ, show at' c.Kids 0 = some x from at_ok (i := 0) hx, yO, inward_R m (!b) x (by omega) (g.kid (List.mem_of_getElem? hx)), yO, inw_8 b c x h8 hx]
    · rw [decide_eq_false h8, xP]
      have e1 : ∀ d : Bool, F_event_inwardAll (F_event_inward_R m) c.Kids d = some (c.Kids.map (inw d)) := by
        intro d
        unfold F_event_inwardAll F_event_inwardAll_L1
        rw [yV]
        refine (congrArg (fun o => bindO o fun g => some g) (loopO_at (fun (i : Nat) => ((c.Kids.take i).map (inw d), (i : Int))) c.Kids (some (c.Kids.map (inw d))) (by omega) ?_ ?_)).trans (yO _ _)
        · intro kk i x hx hi
          obtain ⟨k1, k2, k3⟩ := kid_ok g.ok hx
          simp only [yV]
          rw [lt_true hi, xQ, at_ok hx, yO, inward_R m d x (by omega) (g.kid (List.mem_of_getElem? hx)), yO, appN _ _ _ (by simp; omega) (by decide), yO, wrap1 hi (by omega), take_snoc hx, List.map_append]
          rfl
        · intro kk
          simp only [yV]
          rw [lt_self, xP, List.take_length]
      have e2 := kp_bind c.Kind
      simp only [yV] at e2
      rw [e2, yO, inw_n b c h8]
      unfold top1
      cases hk : kp c.Kind with
      | true =>
        rw [xQ, e1, yO]
        simp only [reduceIte]
        cases b <;> rfl
      | false =>
        rw [xP, e1, yO]
        simp only [reduceIte, Bool.false_eq_true]
        cases b with
        | false => rfl
        | true =>
          simp only [Bool.not_true, xP, reduceIte]
          have e3 := or_bind (decide (c.Kind = 3)) (decide (c.Kind = 4))
          simp only [yV] at e3
          rw [e3, yO]
          by_cases h3 : c.Kind = 3 ∨ c.Kind = 4
          · have q : (decide (c.Kind = 3) || decide (c.Kind = 4)) = true := by simpa using h3
            rw [q, xQ, (contrary_eq c.Op).1, if_pos h3]; rfl
          · have q : (decide (c.Kind = 3) || decide (c.Kind = 4)) = false := by simpa using h3
            rw [q, xP, if_neg h3]
            by_cases h13 : c.Kind = 13
            · have s := g.self.fr
              have s2 := g.self.n
              rw [decide_eq_true h13, xQ, if_pos h13, wrap_i64 (n := c.Frames + 1) (by omega) (by omega), wrap_i64 (by omega) (by omega)]; rfl
            · rw [decide_eq_false h13, xP, if_neg h13, mget_6]; rfl
theorem rinward_R : ∀ (m : Nat) (b : Bool) (c : Cond), dN c ≤ m → Gt c → F_ref6_inward_R m c b = some (inw b c)
  | 0, _, c, h, _ => by have := dN_pos c; omega
  | m + 1, b, c, h, g => by
    have hl := g.kids
    show F_ref6_inward_B (F_ref6_inward_R m) c b = _
    unfold F_ref6_inward_B
    simp only [yV, joinO_eq]
    by_cases h8 : c.Kind = 8
    · obtain ⟨x, hx⟩ := kid8 g h8
      obtain ⟨k1, k2, k3⟩ := kid_ok g.ok hx
      rw [decide_eq_true h8, xQ, show at' c.Kids 0 = some x from at_ok (i := 0) hx, yO, rinward_R m (!b) x (by omega) (g.kid (List.mem_of_getElem? hx)), yO, inw_8 b c x h8 hx]
    · rw [decide_eq_false h8, xP]
      have e1 : ∀ d : Bool, F_ref6_inward_B_L1 (F_ref6_inward_R m) c d (0, []) = some (c.Kids.map (inw d)) := by
        intro d
        unfold F_ref6_inward_B_L1
        refine loopO_at (fun (i : Nat) => ((i : Int), (c.Kids.take i).map (inw d))) c.Kids (some (c.Kids.map (inw d))) (by omega) ?_ ?_
        · intro kk i x hx hi
          obtain ⟨k1, k2, k3⟩ := kid_ok g.ok hx
          simp only [yV]
          rw [lt_true hi, xQ, at_ok hx, yO, rinward_R m d x (by omega) (g.kid (List.mem_of_getElem? hx)), yO, appN _ _ _ (by simp; omega) (by decide), yO, wrap1 hi (by omega), take_snoc hx, List.map_append]
          rfl
        · intro kk
          simp only [yV]
          rw [lt_self, xP, List.take_length]
      have e2 := kp_bind c.Kind
      simp only [yV] at e2
      rw [e2, yO, inw_n b c h8]
      have e4 : iteB (kp c.Kind) (some false) (some b) = some (if kp c.Kind = true then false else b) := by cases kp c.Kind <;> rfl
      rw [e4, yO, e1, yO]
      generalize c.Kids.map (inw (if kp c.Kind = true then false else b)) = ls
      have s := g.self.fr
      have s2 := g.self.n
      have s3 := g.self.k1
      have w13 : IntKind.i64.wrap (IntKind.i64.wrap (c.Frames + 1) - c.N) = c.Frames + 1 - c.N := by rw [wrap_i64 (n := c.Frames + 1) (by omega) (by omega), wrap_i64 (by omega) (by omega)]
      rw [w13, (contrary_eq c.Op).2]
      obtain ⟨k, nm, ot, op, n, fr, ks⟩ := c
      simp only at h8 s3 ⊢
      have hk2 : k = 1 ∨ k = 2 ∨ k = 3 ∨ k = 4 ∨ k = 5 ∨ k = 6 ∨ k = 7 ∨ k = 9 ∨ k = 10 ∨ k = 11 ∨ k = 12 ∨ k = 13 ∨ k = 14 ∨ k = 15 := by omega
      cases b <;> rcases hk2 with rfl | rfl | rfl | rfl | rfl | rfl | rfl | rfl | rfl | rfl | rfl | rfl | rfl | rfl <;> rfl
end Go.Lf
namespace Go.Lf
open Go.OB
def inwR (c : Cond) : Cond × Int := if ckC c = 0 then if ckC (inw false c) = 0 then (inw false c, 0) else (⟨0, [], [], 0, 0, 0, []⟩, 3) else (⟨0, [], [], 0, 0, 0, []⟩, ckC c)
theorem dec_ne {a b : Int} (h : a = b) : decide (a ≠ b) = false := decide_eq_false (by simpa using h)
theorem Inward_eq (c : Cond) (ok : okC c) : F_event_Inward c = some (inwR c) ∧ F_ref6_Inward c = some (inwR c) := by
  unfold F_event_Inward F_ref6_Inward inwR
  rw [CheckCond_eq c ok, rCheckCond_eq c ok, yO, yO]
  simp only [yV]
  by_cases h : ckC c = 0
  · have g := gt_of ok h
    have hd := g.d
    obtain ⟨o2, e2⟩ := inw_ok 20 false c hd g
    have w1 : F_event_inward c false = some (inw false c) := inward_R FU false c (Nat.le_of_lt (FU_gt (by omega))) g
    have w2 : F_ref6_inward c false = some (inw false c) := rinward_R FU false c (Nat.le_of_lt (FU_gt (by omega))) g
    rw [if_pos h, dec_ne h, xP, xP, w1, w2, yO, yO, CheckCond_eq _ o2, rCheckCond_eq _ o2, yO, yO]
    by_cases h2 : ckC (inw false c) = 0
    · rw [if_pos h2, dec_ne h2]; exact ⟨rfl, rfl⟩
    · have h3 : ckC (inw false c) = 3 := by
        unfold ckC at h2 ⊢
        split
        · rename_i q; rw [if_pos q] at h2; exact absurd e2 h2
        · rfl
      rw [if_neg h2, h3]; exact ⟨rfl, rfl⟩
  · rw [if_neg h, decide_eq_true h]; exact ⟨rfl, rfl⟩
theorem bd0 : Bd ⟨0, [], [], 0, 0, 0, []⟩ := ⟨by decide, by decide, by unfold nmC nmCs; exact ⟨⟨by decide, by decide⟩, trivial⟩⟩
theorem inwR_bd (c : Cond) (ok : okC c) : Bd (inwR c).1 := by
  unfold inwR
  split
  · rename_i h
    have g := gt_of ok h
    split
    · rename_i h2
      exact (gt_of (inw_ok 20 false c g.d g).1 h2).bd
    · exact bd0
  · exact bd0
theorem cond_ex {c : Cond} (g : Bd c) (e : Int) : ∃ t, F_law6_cond c e = some t := by
  unfold F_law6_cond
  obtain ⟨q, h1, h2⟩ := ink_Cond g (Orangeboxref0Ink.mk []) 0 (by simp) (by omega)
  obtain ⟨q2, h3, h4⟩ := ink_Int q e h2 (by omega)
  rw [h1, yO]
  unfold F_ref0_Ink_Errno F_ref0_Ink_Told
  rw [h3]
  exact ⟨_, rfl⟩
def okCond (c : Cond) : Prop := okC c
theorem okCond_mk {a0 : Int} {a1 a2 : Str} {a3 a4 a5 : Int} {a6 : List Cond} (k0 : i64 a0) (k1 : okS a1) (k2 : okS a2) (k3 : i64 a3) (k4 : i64 a4) (k5 : i64 a5) (k6 : a6.length ≤ 9223372036854775807 ∧ ∀ x ∈ a6, okCond x) : okCond ⟨a0, a1, a2, a3, a4, a5, a6⟩ :=
  (okC_eq _).2 ⟨⟨k0, k1, k2, k3, k4, k5⟩, k6.1, (okCs_iff _).2 k6.2⟩
theorem law_Inward (c : Cond) (ok : okCond c) : F_law6_EventInwardMatchesSpec c = some true := by
  obtain ⟨s1, s2⟩ := Inward_eq c ok
  obtain ⟨t1, h1⟩ := cond_ex (inwR_bd c ok) (inwR c).2
  unfold F_law6_EventInwardMatchesSpec
  simp only [s1, s2, h1, yO, yV, decide_true, xQ, reads_true]
end Go.Lf
