/- Walks: what each function computes, for every argument; no condition but those that stand in the statements. -/
import Derived.Test.YtnajnkghilemhaaGreatDoorSCa
import Derived.Test.YtnajnkghilemhaaGreatDoorOpr
namespace Go.Lf
open Go.OB
theorem isNm_len {s : Str} (h : isNm s = true) : s.length ≤ 30 := by
  unfold isNm at h
  simp only [Bool.and_eq_true, decide_eq_true_eq] at h
  omega
structure Gd (c : Cond) : Prop where
  k1 : 1 ≤ c.Kind ∧ c.Kind ≤ 15
  nm : c.Name.length ≤ 30
  ot : c.Other.length ≤ 30
  op : 0 ≤ c.Op ∧ c.Op ≤ 6
  n : -1125899906842624 ≤ c.N ∧ c.N ≤ 1125899906842624
  fr : 0 ≤ c.Frames ∧ c.Frames ≤ 4096
set_option maxHeartbeats 20000000 in
theorem gd_in (nm ot : Str) (op n fr : Int) (ks : List Cond) (k : Int) (hk2 : k = 1 ∨ k = 2 ∨ k = 3 ∨ k = 4 ∨ k = 5 ∨ k = 6 ∨ k = 7 ∨ k = 8 ∨ k = 9 ∨ k = 10 ∨ k = 11 ∨ k = 12 ∨ k = 13 ∨ k = 14 ∨ k = 15) (h1 : okS nm) (h2 : okS ot) (h : F_ref6_nodeFault ⟨k, nm, ot, op, n, fr, ks⟩ = some 0) : Gd ⟨k, nm, ot, op, n, fr, ks⟩ := by
  have q1 := @isNm_len nm
  have q2 := @isNm_len ot
  rcases hk2 with rfl | rfl | rfl | rfl | rfl | rfl | rfl | rfl | rfl | rfl | rfl | rfl | rfl | rfl | rfl <;>
    (unfold F_ref6_nodeFault at h
     simp only [rf1, rf2, rf3, rf4, rf5, rf6, rf7, rf8, rf9, rf10, rf11, rf12, rf13, rf14, rf15, zY, yK, Bool.not_true, Bool.not_false, yX, yY, joinO_eq, out6, rIsName_eq _ h1, rIsName_eq _ h2, Int.reduceEq, Int.reduceLT, Int.reduceLE, decide_true, decide_false, Bool.or_self, iteB_or, iteB_or2, iteB_and] at h
     simp only [iteB_ite] at h
     constructor <;> grind)
theorem gd_of {c : Cond} (ok : okC c) (hk : c.Kids.length ≤ 200) (h : ck1 c = 0) : Gd c := by
  have e := (ck_both c (okN_of ok) hk).2
  rw [h] at e
  by_cases hb : 1 ≤ c.Kind ∧ c.Kind ≤ 15
  · have o := okN_of ok
    obtain ⟨k, nm, ot, op, n, fr, ks⟩ := c
    have hk2 : k = 1 ∨ k = 2 ∨ k = 3 ∨ k = 4 ∨ k = 5 ∨ k = 6 ∨ k = 7 ∨ k = 8 ∨ k = 9 ∨ k = 10 ∨ k = 11 ∨ k = 12 ∨ k = 13 ∨ k = 14 ∨ k = 15 := by have := hb.1; have := hb.2; simp only at *; omega
    exact gd_in nm ot op n fr ks k hk2 o.1 o.2 e
  · rw [(chk_no c hb).2] at e
    cases e
theorem fEs_mem {f : Cond → Int} : ∀ {l : List Cond}, fEs f l = 0 → ∀ x ∈ l, fE f x = 0
  | [], _, x, hx => by cases hx
  | a :: l, h, x, hx => by
    rw [fEs] at h
    split at h
    · rename_i q
      rcases List.mem_cons.1 hx with rfl | hx
      · exact q
      · exact fEs_mem h x hx
    · rename_i q; exact absurd h q
structure Gt (c : Cond) : Prop where
  ok : okC c
  d : dN c ≤ 20
  n : cN c ≤ 200
  e : fE ck1 c = 0
theorem gt_of {c : Cond} (ok : okC c) (h : ckC c = 0) : Gt c := by
  obtain ⟨h1, h2, h3⟩ := ckC_good h
  exact ⟨ok, h1, h2, h3⟩
theorem Gt.self {c : Cond} (g : Gt c) : Gd c := by
  have h := g.e
  rw [fE_eq] at h
  have h1 := len_cNs c.Kids
  have h2 := cN_eq c
  have h3 := g.n
  split at h
  · rename_i q; exact gd_of g.ok (by omega) q
  · rename_i q; exact absurd h q
theorem Gt.kid {c x : Cond} (g : Gt c) (hx : x ∈ c.Kids) : Gt x := by
  obtain ⟨j, hj⟩ := List.getElem?_of_mem hx
  obtain ⟨k1, k2, k3⟩ := kid_ok g.ok hj
  have h1 := g.d
  have h2 := g.n
  refine ⟨k1, by omega, by omega, ?_⟩
  have h := g.e
  rw [fE_eq] at h
  split at h
  · exact fEs_mem h x hx
  · rename_i q; exact absurd h q
theorem Gt.kids {c : Cond} (g : Gt c) : c.Kids.length ≤ 200 := by
  have h1 := len_cNs c.Kids
  have h2 := cN_eq c
  have h3 := g.n
  omega
end Go.Lf
namespace Go.Lf
open Go.OB
theorem appN {α : Type} (b : Nat) (p q : List α) (h : p.length + q.length ≤ 1000) (hb : b ≤ 1000) : app' b p q = some (p ++ q) := by
  unfold app'
  have := Nat.mul_le_mul h hb
  rw [if_pos ⟨by rw [maxLen_eq]; omega, by omega⟩]
theorem take_snoc {α : Type} {l : List α} {i : Nat} {x : α} (hx : l[i]? = some x) : l.take (i + 1) = l.take i ++ [x] := by
  rw [List.take_add_one, hx]; rfl
def upN (k n : Int) : Int := (n + k - 1) / k
theorem up_eq (n k : Int) (hn : 0 ≤ n ∧ n ≤ 4096) (hk : 1 ≤ k ∧ k ≤ 64) : F_ref6_up n k = some (upN k n) ∧ F_event_slower_1 n k = some (upN k n) := by
  have e : quo' .i64 (n + k - 1) k = some (upN k n) := by
    unfold quo' upN
    have h0 : 0 ≤ (n + k - 1) / k := Int.ediv_nonneg (by omega) (by omega)
    have h1 : (n + k - 1) / k ≤ n + k - 1 := Int.ediv_le_self _ (by omega)
    rw [if_neg (by omega), Int.tdiv_eq_ediv_of_nonneg (by omega), wrap_i64 (by omega) (by omega)]
  unfold F_ref6_up F_event_slower_1
  simp only [yK]
  rw [wrap_i64 (n := n + k) (by omega) (by omega), wrap_i64 (by omega) (by omega), e]
  exact ⟨rfl, rfl⟩
theorem up_zero (k : Int) (hk : 1 ≤ k) : upN k 0 = 0 := by
  unfold upN
  exact Int.ediv_eq_zero_of_lt (by omega) (by omega)
mutual
def slw (k : Int) : Cond → Cond
  | ⟨kd, nm, ot, op, n, fr, ks⟩ => ⟨kd, nm, ot, op, if kd = 13 then upN k n else n, upN k fr, slws k ks⟩
def slws (k : Int) : List Cond → List Cond
  | [] => []
  | c :: l => slw k c :: slws k l
end
theorem slws_map (k : Int) : ∀ l : List Cond, slws k l = l.map (slw k)
  | [] => rfl
  | c :: l => by rw [slws, slws_map k l]; rfl
theorem slw_eq (k : Int) (c : Cond) : slw k c = ⟨c.Kind, c.Name, c.Other, c.Op, if c.Kind = 13 then upN k c.N else c.N, upN k c.Frames, c.Kids.map (slw k)⟩ := by
  cases c; rw [slw, slws_map]
theorem cnt13 {c : Cond} (g : Gt c) (h : c.Kind = 13) : 0 ≤ c.N ∧ c.N ≤ 4096 := by
  have h0 := g.e
  have hk := g.kids
  rw [fE_eq] at h0
  split at h0
  · rename_i q
    have e := (ck_both c (okN_of g.ok) hk).2
    have o := okN_of g.ok
    rw [q] at e
    obtain ⟨kd, nm, ot, op, n, fr, ks⟩ := c
    simp only at h
    subst h
    unfold F_ref6_nodeFault at e
    simp only [rf13, zY, yK, Bool.not_true, Bool.not_false, yX, yY, joinO_eq, out6, Int.reduceEq, Int.reduceLT, Int.reduceLE, decide_true, decide_false, Bool.or_self, iteB_or, iteB_or2, iteB_and] at e
    simp only [iteB_ite] at e
    constructor <;> grind
  · rename_i q; exact absurd h0 q
theorem slower_R (k : Int) (hk : 1 ≤ k ∧ k ≤ 64) : ∀ (n : Nat) (c : Cond), dN c ≤ n → Gt c → F_event_slower_R n c k = some (slw k c)
  | 0, c, h, _ => by have := dN_pos c; omega
  | n + 1, c, h, g => by
    have hl := g.kids
    have s := g.self
    have u1 := (up_eq c.Frames k s.fr hk).2
    show F_event_slower_B (F_event_slower_R n) c k = _
    unfold F_event_slower_B
    have e1 : (letO (decide (0 < c.Frames)) fun x28 => iteB x28 (bindO (F_event_slower_1 c.Frames k) fun x31 => some x31) (some c.Frames)) = some (upN k c.Frames) := by
      rw [yK, u1, zY, iteB_dec]
      split
      · rfl
      · have z : c.Frames = 0 := by have := s.fr.1; omega
        rw [z, up_zero k hk.1]
    have e2 : (letO (decide (c.Kind = 13)) fun x49 => iteB x49 (bindO (F_event_slower_1 c.N k) fun x52 => some x52) (some c.N)) = some (if c.Kind = 13 then upN k c.N else c.N) := by
      rw [yK, iteB_dec]
      by_cases z : c.Kind = 13
      · rw [if_pos z, if_pos z, (up_eq c.N k (cnt13 g z) hk).2, zY]
      · rw [if_neg z, if_neg z]
    rw [e1, zY, e2, zY, yK]
    have e3 : F_event_slower_B_L1 (F_event_slower_R n) c k (c.Kids.length : Int) ([], 0) = some (c.Kids.map (slw k)) := by
      unfold F_event_slower_B_L1
      refine loopO_at (fun (i : Nat) => ((c.Kids.take i).map (slw k), (i : Int))) c.Kids (some (c.Kids.map (slw k))) (by omega) ?_ ?_
      · intro kk i x hx hi
        obtain ⟨k1, k2, k3⟩ := kid_ok g.ok hx
        simp only [yK]
        rw [wC hi, yX, at_ok hx, zY, slower_R k hk n x (by omega) (g.kid (List.mem_of_getElem? hx)), zY, appN _ _ _ (by simp; omega) (by decide), zY, wrap1 hi (by omega), take_snoc hx, List.map_append]
        rfl
      · intro kk
        simp only [yK]
        rw [wF, yY, List.take_length]
    rw [e3, zY, slw_eq]
theorem rslower_R (k : Int) (hk : 1 ≤ k ∧ k ≤ 64) : ∀ (n : Nat) (c : Cond), dN c ≤ n → Gt c → F_ref6_slower_R n c k = some (slw k c)
  | 0, c, h, _ => by have := dN_pos c; omega
  | n + 1, c, h, g => by
    have hl := g.kids
    have s := g.self
    have u1 := (up_eq c.Frames k s.fr hk).1
    show F_ref6_slower_B (F_ref6_slower_R n) c k = _
    unfold F_ref6_slower_B
    have e2 : (letO (decide (c.Kind = 13)) fun x37 => iteB x37 (bindO (F_ref6_up c.N k) fun x41 => some x41) (some c.N)) = some (if c.Kind = 13 then upN k c.N else c.N) := by
      rw [yK, iteB_dec]
      by_cases z : c.Kind = 13
      · rw [if_pos z, if_pos z, (up_eq c.N k (cnt13 g z) hk).1, zY]
      · rw [if_neg z, if_neg z]
    rw [u1, zY, e2, zY]
    have e3 : F_ref6_slower_B_L1 (F_ref6_slower_R n) c k (0, []) = some (c.Kids.map (slw k)) := by
      unfold F_ref6_slower_B_L1
      refine loopO_at (fun (i : Nat) => ((i : Int), (c.Kids.take i).map (slw k))) c.Kids (some (c.Kids.map (slw k))) (by omega) ?_ ?_
      · intro kk i x hx hi
        obtain ⟨k1, k2, k3⟩ := kid_ok g.ok hx
        simp only [yK]
        rw [wC hi, yX, at_ok hx, zY, rslower_R k hk n x (by omega) (g.kid (List.mem_of_getElem? hx)), zY, appN _ _ _ (by simp; omega) (by decide), zY, wrap1 hi (by omega), take_snoc hx, List.map_append]
        rfl
      · intro kk
        simp only [yK]
        rw [wF, yY, List.take_length]
    rw [e3, zY, slw_eq]
theorem copy_R : ∀ (n : Nat) (c : Cond), dN c ≤ n → Gt c → F_event_copyCond_R n c = some c
  | 0, c, h, _ => by have := dN_pos c; omega
  | n + 1, c, h, g => by
    have hl := g.kids
    show F_event_copyCond_B (F_event_copyCond_R n) c = _
    unfold F_event_copyCond_B
    rw [yK]
    have e3 : F_event_copyCond_B_L1 (F_event_copyCond_R n) c (c.Kids.length : Int) ([], 0) = some c.Kids := by
      unfold F_event_copyCond_B_L1
      refine loopO_at (fun (i : Nat) => (c.Kids.take i, (i : Int))) c.Kids (some c.Kids) (by omega) ?_ ?_
      · intro kk i x hx hi
        obtain ⟨k1, k2, k3⟩ := kid_ok g.ok hx
        simp only [yK]
        rw [wC hi, yX, at_ok hx, zY, copy_R n x (by omega) (g.kid (List.mem_of_getElem? hx)), zY, appN _ _ _ (by simp; omega) (by decide), zY, wrap1 hi (by omega), take_snoc hx]
      · intro kk
        simp only [yK]
        rw [wF, yY, List.take_length]
    rw [e3, zY]
    cases c; rfl
theorem slower_eq (k : Int) (hk : 1 ≤ k ∧ k ≤ 64) {c : Cond} (g : Gt c) : F_event_slower c k = some (slw k c) ∧ F_ref6_slower c k = some (slw k c) :=
  ⟨slower_R k hk FU c (Nat.le_of_lt (FU_gt (by have := g.d; omega))) g, rslower_R k hk FU c (Nat.le_of_lt (FU_gt (by have := g.d; omega))) g⟩
theorem copy_eq {c : Cond} (g : Gt c) : F_event_copyCond c = some c := copy_R FU c (Nat.le_of_lt (FU_gt (by have := g.d; omega))) g
structure Gr' (r : Rules) : Prop where
  p : r.Phases.length ≤ 20
  m : r.Moves.length ≤ 60
  l : r.Rules.length ≤ 60
  pn : ∀ x ∈ r.Phases, x.length ≤ 30
  pd : ∀ (i : Nat) x, r.Phases[i]? = some x → x ∉ r.Phases.take i
  mg : ∀ x ∈ r.Moves, Gt x.When ∧ x.From.length ≤ 30 ∧ x.To.length ≤ 30
  lg : ∀ x ∈ r.Rules, Gt x.When ∧ x.Name.length ≤ 30
theorem findO_bind {α : Type} (e : Nat → α → Int) (fin : Option Int) : ∀ (l : List α) (i : Nat), findO (fun i x => if e i x = 0 then none else some (some (e i x))) fin l i = some 0 → fin = some 0 ∧ ∀ (j : Nat) x, l[j]? = some x → e (i + j) x = 0
  | [], i, h => ⟨h, fun j x hx => by simp at hx⟩
  | a :: l, i, h => by
    rw [findO] at h
    by_cases z : e i a = 0
    · rw [if_pos z] at h
      obtain ⟨h1, h2⟩ := findO_bind e fin l (i + 1) h
      refine ⟨h1, fun j x hx => ?_⟩
      cases j with
      | zero => simp at hx; subst hx; simpa using z
      | succ j => have := h2 j x (by simpa using hx); rwa [show i + (j + 1) = i + 1 + j by omega]
    · rw [if_neg z] at h
      exact absurd (Option.some.inj h) z
theorem chk_good {r : Rules} (ok : okR r) (h : chk r = some 0) : Gr' r := by
  unfold chk at h
  split at h
  · exact absurd (Option.some.inj h) (by decide)
  · rename_i q
    simp only [Bool.or_eq_true, decide_eq_true_eq, not_or] at q
    obtain ⟨h1, h2⟩ := findO_bind (phE r.Phases) _ _ _ h
    obtain ⟨h3, h4⟩ := findO_bind (fun _ => mvE r) _ _ _ h1
    obtain ⟨h5, h6⟩ := findO_bind (rlE r) _ _ _ h3
    have ph : ∀ (i : Nat) x, r.Phases[i]? = some x → isNm x = true ∧ x ∉ r.Phases.take i := by
      intro i x hx
      have := h2 i x hx
      rw [Nat.zero_add] at this
      unfold phE at this
      split at this
      · rename_i a
        refine ⟨a, ?_⟩
        split at this
        · exact absurd this (by decide)
        · rename_i b
          intro hm
          exact b (List.any_eq_true.2 ⟨x, hm, by simp⟩)
      · exact absurd this (by decide)
    have pn : ∀ x ∈ r.Phases, x.length ≤ 30 := by
      intro x hx
      obtain ⟨j, hj⟩ := List.getElem?_of_mem hx
      exact isNm_len (ph j x hj).1
    refine ⟨by omega, by omega, by omega, pn, fun i x hx => (ph i x hx).2, ?_, ?_⟩
    · intro x hx
      obtain ⟨j, hj⟩ := List.getElem?_of_mem hx
      have := h4 j x hj
      unfold mvE at this
      split at this
      · rename_i a
        split at this
        · rename_i b
          obtain ⟨y, y1, y2⟩ := List.any_eq_true.1 a.1
          obtain ⟨z, z1, z2⟩ := List.any_eq_true.1 a.2
          refine ⟨gt_of (ok.2.1.2 x hx).2.2 b, ?_, ?_⟩
          · rw [of_decide_eq_true y2]; exact pn y y1
          · rw [of_decide_eq_true z2]; exact pn z z1
        · rename_i b; exact absurd this b
      · exact absurd this (by decide)
    · intro x hx
      obtain ⟨j, hj⟩ := List.getElem?_of_mem hx
      have := h6 j x hj
      unfold rlE at this
      split at this
      · rename_i a
        split at this
        · exact absurd this (by decide)
        · split at this
          · rename_i b; exact ⟨gt_of (ok.2.2.2 x hx).2 b, isNm_len a⟩
          · rename_i b; exact absurd this b
      · exact absurd this (by decide)
theorem chk_some (r : Rules) : ∃ e, chk r = some e := by
  have key : ∀ {α : Type} (e : Nat → α → Int) (fin : Option Int) (_ : ∃ z, fin = some z) (l : List α) (i : Nat), ∃ z, findO (fun i x => if e i x = 0 then none else some (some (e i x))) fin l i = some z := by
    intro α e fin hf l
    induction l with
    | nil => intro i; exact hf
    | cons a l ih =>
      intro i
      rw [findO]
      by_cases z : e i a = 0
      · rw [if_pos z]; exact ih (i + 1)
      · rw [if_neg z]; exact ⟨_, rfl⟩
  unfold chk
  split
  · exact ⟨_, rfl⟩
  · exact key (phE r.Phases) _ (key (fun _ => mvE r) _ (key (rlE r) _ ⟨0, rfl⟩ _ _) _ _) _ _
end Go.Lf
namespace Go.Lf
open Go.OB
def slwM (k : Int) (m : MoveT) : MoveT := ⟨m.From, m.To, slw k m.When⟩
def slwR (k : Int) (x : Rule) : Rule := ⟨x.Name, slw k x.When⟩
def slwr (r : Rules) (k e : Int) : Rules × Int :=
  if e = 0 then if 1 ≤ k ∧ k ≤ 64 then (⟨r.Phases, r.Moves.map (slwM k), r.Rules.map (slwR k)⟩, 0) else (⟨[], [], []⟩, 9) else (⟨[], [], []⟩, e)
theorem clone_eq (l : List Str) (h : l.length ≤ 1000) : F_slices_Clone___string_string_ l = some l := by
  unfold F_slices_Clone___string_string_ nilO
  cases l with
  | nil => rfl
  | cons a l =>
    show bindO (app' 16 [] (a :: l)) (fun x27 => some x27) = _
    rw [appN 16 [] (a :: l) (by simpa using h) (by decide)]; rfl
theorem Slower_eq (r : Rules) (k e : Int) (ok : okR r) (he : chk r = some e) : F_event_Slower r k = some (slwr r k e) ∧ F_ref6_Slower r k = some (slwr r k e) := by
  unfold F_event_Slower F_ref6_Slower slwr
  rw [Check_eq r ok, rCheck_eq r ok, he, zY, zY]
  simp only [yK]
  by_cases z : e = 0
  · subst z
    have g := chk_good ok he
    have gp := g.p
    have gm := g.m
    have gl := g.l
    rw [if_pos rfl, decide_eq_false (by decide), yY, yY, ewithin, out6, zY, zY]
    by_cases hk : 1 ≤ k ∧ k ≤ 64
    · rw [if_pos hk, decide_eq_true hk.1, decide_eq_true hk.2, Bool.and_self, Bool.not_true, yY, decide_eq_false (show ¬ k < 1 by omega), decide_eq_false (show ¬ 64 < k by omega), Bool.or_self, yY]
      have a1 : F_event_Slower_L1 r k (r.Moves.length : Int) (0, []) = some (r.Moves.map (slwM k)) := by
        unfold F_event_Slower_L1
        refine loopO_at (fun (i : Nat) => ((i : Int), (r.Moves.take i).map (slwM k))) r.Moves (some (r.Moves.map (slwM k))) (by omega) ?_ ?_
        · intro kk i x hx hi
          simp only [yK]
          rw [wC hi, yX, at_ok hx, zY, (slower_eq k hk (g.mg x (List.mem_of_getElem? hx)).1).1, zY, appN _ _ _ (by simp; omega) (by decide), zY, wrap1 hi (by omega), take_snoc hx, List.map_append]
          rfl
        · intro kk
          simp only [yK]
          rw [wF, yY, List.take_length]
      have a2 : F_event_Slower_L2 r k (r.Rules.length : Int) (0, []) = some (r.Rules.map (slwR k)) := by
        unfold F_event_Slower_L2
        refine loopO_at (fun (i : Nat) => ((i : Int), (r.Rules.take i).map (slwR k))) r.Rules (some (r.Rules.map (slwR k))) (by omega) ?_ ?_
        · intro kk i x hx hi
          simp only [yK]
          rw [wC hi, yX, at_ok hx, zY, (slower_eq k hk (g.lg x (List.mem_of_getElem? hx)).1).1, zY, appN _ _ _ (by simp; omega) (by decide), zY, wrap1 hi (by omega), take_snoc hx, List.map_append]
          rfl
        · intro kk
          simp only [yK]
          rw [wF, yY, List.take_length]
      have b1 : F_ref6_Slower_L1 r k (0, []) = some (r.Moves.map (slwM k)) := by
        unfold F_ref6_Slower_L1
        refine loopO_at (fun (i : Nat) => ((i : Int), (r.Moves.take i).map (slwM k))) r.Moves (some (r.Moves.map (slwM k))) (by omega) ?_ ?_
        · intro kk i x hx hi
          simp only [yK]
          rw [wC hi, yX, at_ok hx, zY, (slower_eq k hk (g.mg x (List.mem_of_getElem? hx)).1).2, zY, appN _ _ _ (by simp; omega) (by decide), zY, wrap1 hi (by omega), take_snoc hx, List.map_append]
          rfl
        · intro kk
          simp only [yK]
          rw [wF, yY, List.take_length]
      have b2 : F_ref6_Slower_L2 r k (0, []) = some (r.Rules.map (slwR k)) := by
        unfold F_ref6_Slower_L2
        refine loopO_at (fun (i : Nat) => ((i : Int), (r.Rules.take i).map (slwR k))) r.Rules (some (r.Rules.map (slwR k))) (by omega) ?_ ?_
        · intro kk i x hx hi
          simp only [yK]
          rw [wC hi, yX, at_ok hx, zY, zY, (slower_eq k hk (g.lg x (List.mem_of_getElem? hx)).1).2, zY, appN _ _ _ (by simp; omega) (by decide), zY, wrap1 hi (by omega), take_snoc hx, List.map_append]
          rfl
        · intro kk
          simp only [yK]
          rw [wF, yY, List.take_length]
      rw [clone_eq _ (by omega), appN 16 [] r.Phases (by simp; omega) (by decide), zY, zY, a1, a2, b1, b2]
      exact ⟨rfl, rfl⟩
    · rw [if_neg hk]
      by_cases h1 : 1 ≤ k
      · have h2 : ¬ k ≤ 64 := fun h => hk ⟨h1, h⟩
        rw [decide_eq_false h2, Bool.and_false, Bool.not_false, yX, decide_eq_true (show 64 < k by omega), Bool.or_true, yX]
        exact ⟨rfl, rfl⟩
      · rw [decide_eq_false h1, Bool.false_and, Bool.not_false, yX, decide_eq_true (show k < 1 by omega), Bool.true_or, yX]
        exact ⟨rfl, rfl⟩
  · rw [if_neg z, decide_eq_true z, yX, yX]
    exact ⟨rfl, rfl⟩
/-! ### Merge -/
def mrg (a b : Rules) : Rules := ⟨a.Phases ++ b.Phases.filter fun x => decide (x ∉ a.Phases), a.Moves ++ b.Moves, a.Rules ++ b.Rules⟩
def mrgd (a b : Rules) (ea eb eo : Int) : Rules × Int := if ea = 0 then if eb = 0 then if eo = 0 then (mrg a b, 0) else (⟨[], [], []⟩, eo) else (⟨[], [], []⟩, eb) else (⟨[], [], []⟩, ea)
theorem okR_mrg {a b : Rules} (ga : Gr' a) (gb : Gr' b) (oa : okR a) (ob : okR b) : okR (mrg a b) := by
  have h1 := ga.p; have h2 := gb.p; have h3 := ga.m; have h4 := gb.m; have h5 := ga.l; have h6 := gb.l
  have hf := List.length_filter_le (fun x => decide (x ∉ a.Phases)) b.Phases
  refine ⟨⟨by simp only [mrg, List.length_append]; omega, ?_⟩, ⟨by simp only [mrg, List.length_append]; omega, ?_⟩, ⟨by simp only [mrg, List.length_append]; omega, ?_⟩⟩
  · intro x hx
    rcases List.mem_append.1 hx with h | h
    · exact oa.1.2 x h
    · exact ob.1.2 x (List.mem_filter.1 h).1
  · intro x hx
    rcases List.mem_append.1 hx with h | h
    · exact oa.2.1.2 x h
    · exact ob.2.1.2 x h
  · intro x hx
    rcases List.mem_append.1 hx with h | h
    · exact oa.2.2.2 x h
    · exact ob.2.2.2 x h
theorem any_mem (l : List Str) (c : Str) : (l.any fun y => decide (c = y)) = decide (c ∈ l) := by
  rw [Bool.eq_iff_iff, List.any_eq_true, decide_eq_true_eq]
  constructor
  · rintro ⟨y, h, e⟩; rw [of_decide_eq_true e]; exact h
  · intro h; exact ⟨c, h, decide_eq_true rfl⟩
theorem phases_loop (r : Rules) (g : Gr' r) (P : List Str) (hP : P.length ≤ 100) : F_event_Merge_L2 r (r.Phases.length : Int) (0, P) = some (P ++ r.Phases.filter fun x => decide (x ∉ P)) := by
  have gp := g.p
  unfold F_event_Merge_L2
  have e0 : P = P ++ (r.Phases.take 0).filter fun x => decide (x ∉ P) := by simp
  conv => lhs; rw [e0]
  refine loopO_at (fun (i : Nat) => ((i : Int), P ++ (r.Phases.take i).filter fun x => decide (x ∉ P))) r.Phases (some (P ++ r.Phases.filter fun x => decide (x ∉ P))) (by omega) ?_ ?_
  · intro kk i x hx hi
    have hf := List.length_filter_le (fun x => decide (x ∉ P)) (r.Phases.take i)
    rw [List.length_take] at hf
    simp only [yK]
    rw [wC hi, yX, at_ok hx, zY, contS_eq _ _ (by rw [List.length_append]; omega), zY, any_mem, wrap1 hi (by omega), take_snoc hx, List.filter_append]
    have nt := g.pd i x hx
    by_cases hm : x ∈ P
    · rw [decide_eq_true (List.mem_append_left _ hm), Bool.not_true, yY, zY]
      simp [hm]
    · have hn : x ∉ P ++ (r.Phases.take i).filter fun x => decide (x ∉ P) := by
        intro h
        rcases List.mem_append.1 h with h | h
        · exact hm h
        · exact nt (List.mem_filter.1 h).1
      rw [decide_eq_false hn, Bool.not_false, yX, appN _ _ _ (by rw [List.length_append]; simp only [List.length_cons, List.length_nil]; omega) (by decide), zY, zY]
      simp [hm]
  · intro kk
    simp only [yK]
    rw [wF, yY, List.take_length]
theorem moves_loop (r : Rules) (g : Gr' r) (M : List MoveT) (hM : M.length ≤ 100) : F_event_Merge_L3 r (r.Moves.length : Int) (0, M) = some (M ++ r.Moves) := by
  have gm := g.m
  unfold F_event_Merge_L3
  have e0 : M = M ++ r.Moves.take 0 := by simp
  conv => lhs; rw [e0]
  refine loopO_at (fun (i : Nat) => ((i : Int), M ++ r.Moves.take i)) r.Moves (some (M ++ r.Moves)) (by omega) ?_ ?_
  · intro kk i x hx hi
    simp only [yK]
    rw [wC hi, yX, at_ok hx, zY, copy_eq (g.mg x (List.mem_of_getElem? hx)).1, zY, appN _ _ _ (by simp; omega) (by decide), zY, wrap1 hi (by omega), take_snoc hx, List.append_assoc]
  · intro kk
    simp only [yK]
    rw [wF, yY, List.take_length]
theorem rules_loop (K : ((List Str) × (List MoveT) × (List Rule)) → Option (Rules × Int)) (r : Rules) (g : Gr' r) (P : List Str) (M : List MoveT) (L : List Rule) (hL : L.length ≤ 100) : F_event_Merge_L4 K r P M (r.Rules.length : Int) (0, L) = K (P, M, L ++ r.Rules) := by
  have gl := g.l
  unfold F_event_Merge_L4
  have e0 : L = L ++ r.Rules.take 0 := by simp
  conv => lhs; rw [e0]
  refine loopO_at (fun (i : Nat) => ((i : Int), L ++ r.Rules.take i)) r.Rules (K (P, M, L ++ r.Rules)) (by omega) ?_ ?_
  · intro kk i x hx hi
    simp only [yK]
    rw [wC hi, yX, at_ok hx, zY, copy_eq (g.lg x (List.mem_of_getElem? hx)).1, zY, appN _ _ _ (by simp; omega) (by decide), zY, wrap1 hi (by omega), take_snoc hx, List.append_assoc]
  · intro kk
    simp only [yK]
    rw [wF, yY, List.take_length]
theorem rphases_loop (a b : Rules) (ga : Gr' a) (gb : Gr' b) : F_ref6_Merge_L1 a b (0, a.Phases) = some (a.Phases ++ b.Phases.filter fun x => decide (x ∉ a.Phases)) := by
  have gp := ga.p
  have gq := gb.p
  unfold F_ref6_Merge_L1
  have e0 : a.Phases = a.Phases ++ (b.Phases.take 0).filter fun x => decide (x ∉ a.Phases) := by simp
  conv => lhs; arg 2; rw [e0]
  refine loopO_at (fun (i : Nat) => ((i : Int), a.Phases ++ (b.Phases.take i).filter fun x => decide (x ∉ a.Phases))) b.Phases (some (a.Phases ++ b.Phases.filter fun x => decide (x ∉ a.Phases))) (by omega) ?_ ?_
  · intro kk i x hx hi
    have hf := List.length_filter_le (fun x => decide (x ∉ a.Phases)) (b.Phases.take i)
    rw [List.length_take] at hf
    obtain ⟨n, h1, h2⟩ := place_eq a.Phases x (by omega)
    have neg : decide (n < 0) = !decide (0 ≤ n) := by rw [← decide_not]; exact decide_eq_decide.2 (by omega)
    simp only [yK]
    rw [wC hi, yX, at_ok hx, zY, h1, zY, neg, h2, any_mem, wrap1 hi (by omega), take_snoc hx, List.filter_append]
    by_cases hm : x ∈ a.Phases
    · rw [decide_eq_true hm, Bool.not_true, yY, zY]
      simp [hm]
    · rw [decide_eq_false hm, Bool.not_false, yX, zY, appN _ _ _ (by rw [List.length_append]; simp only [List.length_cons, List.length_nil]; omega) (by decide), zY, zY]
      simp [hm]
  · intro kk
    simp only [yK]
    rw [wF, yY, List.take_length]
theorem two_loop {γ β : Type} {B : (γ → Option β) → γ → Option β} {g : γ} {r : Option β} (h : ∀ m, B (loopN B (m + 2)) g = r) : loopO B g = r := by
  obtain ⟨m, hm⟩ : ∃ m, FU = m + 3 := ⟨FU - 3, by have := FU_gt (n := 10) (by decide); omega⟩
  unfold loopO
  rw [hm]
  exact h m
theorem Merge_eq (a b : Rules) (oa : okR a) (ob : okR b) (ea eb eo : Int) (ha : chk a = some ea) (hb : chk b = some eb) (ho : chk (mrg a b) = some eo) : F_event_Merge a b = some (mrgd a b ea eb eo) ∧ F_ref6_Merge a b = some (mrgd a b ea eb eo) := by
  have fin : ∀ (K : ((List Str) × (List MoveT) × (List Rule)) → Option (Rules × Int)) (_ : ea = 0 → eb = 0 → K ((mrg a b).Phases, (mrg a b).Moves, (mrg a b).Rules) = if eo = 0 then some (mrg a b, 0) else some (⟨[], [], []⟩, eo)), F_event_Merge_L1 a b K 2 (0, [], [], []) = some (mrgd a b ea eb eo) := by
    intro K hK
    unfold F_event_Merge_L1
    refine two_loop fun m => ?_
    simp only [yK, joinO_eq]
    rw [decide_eq_true (by decide), yX, show at' [a, b] (0 : Int) = some a from rfl, zY, Check_eq a oa, ha, zY]
    unfold mrgd
    by_cases z : ea = 0
    · subst z
      have ga := chk_good oa ha
      rw [if_pos rfl, decide_eq_false (by decide), yY, phases_loop a ga [] (by decide), zY, moves_loop a ga [] (by decide), zY, rules_loop _ a ga _ _ [] (by decide)]
      simp only []
      rw [show IntKind.i64.wrap (0 + 1) = (1 : Int) from rfl, loopN]
      simp only []
      rw [decide_eq_true (by decide), yX, show at' [a, b] (1 : Int) = some b from rfl, zY, Check_eq b ob, hb, zY]
      by_cases y : eb = 0
      · subst y
        have gb := chk_good ob hb
        have gp := ga.p; have gm := ga.m; have gl := ga.l
        have e1 : ([] : List Str) ++ a.Phases.filter (fun x => decide (x ∉ ([] : List Str))) = a.Phases := by simp
        rw [if_pos rfl, decide_eq_false (by decide), yY, e1, List.nil_append, List.nil_append, phases_loop b gb a.Phases (by omega), zY, moves_loop b gb a.Moves (by omega), zY, rules_loop _ b gb _ _ a.Rules (by omega)]
        simp only []
        rw [show IntKind.i64.wrap (1 + 1) = (2 : Int) from rfl, loopN]
        simp only []
        rw [decide_eq_false (by decide), yY]
        refine (hK rfl rfl).trans ?_
        split <;> rfl
      · rw [if_neg y, decide_eq_true y, yX]
    · rw [if_neg z, decide_eq_true z, yX]
  constructor
  · unfold F_event_Merge
    simp only [yK, joinO_eq]
    refine fin _ fun z y => ?_
    subst z; subst y
    have om := okR_mrg (chk_good oa ha) (chk_good ob hb) oa ob
    have e : (Rules.mk (mrg a b).Phases (mrg a b).Moves (mrg a b).Rules) = mrg a b := rfl
    simp only [e]
    rw [Check_eq _ om, ho, zY]
    by_cases w : eo = 0
    · rw [if_pos w, decide_eq_false (by simpa using w), yY]
    · rw [if_neg w, decide_eq_true w, yX]
  · unfold F_ref6_Merge mrgd
    rw [rCheck_eq a oa, ha, zY]
    simp only [yK]
    by_cases z : ea = 0
    · subst z
      have ga := chk_good oa ha
      rw [if_pos rfl, decide_eq_false (by decide), yY, rCheck_eq b ob, hb, zY]
      by_cases y : eb = 0
      · subst y
        have gb := chk_good ob hb
        have gp := ga.p; have gm := ga.m; have gl := ga.l; have gq := gb.m; have gr := gb.l
        have om := okR_mrg ga gb oa ob
        rw [if_pos rfl, decide_eq_false (by decide), yY, appN 16 [] a.Phases (by simp; omega) (by decide), zY, List.nil_append, rphases_loop a b ga gb, zY, appN 120 [] a.Moves (by simp; omega) (by decide), zY, List.nil_append, appN 120 _ b.Moves (by omega) (by decide), zY, appN 104 [] a.Rules (by simp; omega) (by decide), zY, List.nil_append, appN 104 _ b.Rules (by omega) (by decide), zY]
        show bindO (F_ref6_Check (mrg a b)) _ = _
        rw [rCheck_eq _ om, ho, zY]
        by_cases w : eo = 0
        · rw [if_pos w, decide_eq_false (by simpa using w), yY]; rfl
        · rw [if_neg w, decide_eq_true w, yX]
      · rw [if_neg y, decide_eq_true y, yX]
    · rw [if_neg z, decide_eq_true z, yX]
end Go.Lf
namespace Go.Lf
open Go.OB
section
variable {α β γ σ : Type}
theorem loopN_inv {body : (γ → Option β) → γ → Option β} (enc : Nat → σ → γ) (l : List α) (I : Nat → σ → Prop) (R : β → Prop)
    (h : ∀ k i s x, l[i]? = some x → i < l.length → I i s → ∃ s', I (i + 1) s' ∧ body k (enc i s) = k (enc (i + 1) s')) (hx : ∀ k s, I l.length s → ∃ r, body k (enc l.length s) = some r ∧ R r) :
    ∀ (d i : Nat) (s : σ) (n : Nat), i + d = l.length → d < n → I i s → ∃ r, loopN body n (enc i s) = some r ∧ R r
  | 0, i, s, n, hd, hn, hI => by
    obtain ⟨m, rfl⟩ : ∃ m, n = m + 1 := ⟨n - 1, by omega⟩
    obtain rfl : i = l.length := by omega
    rw [loopN]; exact hx _ s hI
  | d + 1, i, s, n, hd, hn, hI => by
    obtain ⟨m, rfl⟩ : ∃ m, n = m + 1 := ⟨n - 1, by omega⟩
    have hi : i < l.length := by omega
    obtain ⟨s', h1, h2⟩ := h (loopN body m) i s l[i] (List.getElem?_eq_getElem hi) hi hI
    rw [loopN, h2]
    exact loopN_inv enc l I R h hx d (i + 1) s' m (by omega) (by omega) h1
theorem loopO_inv {body : (γ → Option β) → γ → Option β} (enc : Nat → σ → γ) (l : List α) (I : Nat → σ → Prop) (R : β → Prop) (hl : l.length ≤ 9223372036854775807)
    (h : ∀ k i s x, l[i]? = some x → i < l.length → I i s → ∃ s', I (i + 1) s' ∧ body k (enc i s) = k (enc (i + 1) s')) (hx : ∀ k s, I l.length s → ∃ r, body k (enc l.length s) = some r ∧ R r) (s : σ) (h0 : I 0 s) :
    ∃ r, loopO body (enc 0 s) = some r ∧ R r := loopN_inv enc l I R h hx l.length 0 s FU (by omega) (FU_big hl) h0
end
theorem app1 (p q : List Int) (h : p.length + q.length ≤ 140737488355328) : app' 1 p q = some (p ++ q) := by
  unfold app'
  rw [if_pos ⟨by rw [Go.OB.maxLen_eq]; omega, by omega⟩]
theorem AppendUint_ex (p : List Int) (n : Int) (hn : 0 ≤ n ∧ n ≤ 18446744073709551615) (h : p.length + 20 ≤ 140737488355328) : ∃ q, X_AppendUint p n 10 = some q ∧ q.length ≤ p.length + 20 := by
  unfold X_AppendUint
  rw [if_pos ⟨rfl, hn.1, hn.2, h⟩]
  refine ⟨_, rfl, ?_⟩
  rw [List.length_append, nums_len, Lib.decDigits_length]
  have := Lib.nDigits_le20 n.toNat (by omega)
  omega
theorem u64_rng (n : Int) : 0 ≤ IntKind.u64.wrap n ∧ IntKind.u64.wrap n ≤ 18446744073709551615 := by
  rw [IntKind.wrap_u64]; omega
theorem AppendInt_ex (p : List Int) (n : Int) (h : p.length + 21 ≤ 140737488355328) : ∃ q, F_strconv_AppendInt p n 10 = some q ∧ q.length ≤ p.length + 21 := by
  have e : ∃ q, F_internal_strconv_AppendInt p n 10 = some q ∧ q.length ≤ p.length + 21 := by
    unfold F_internal_strconv_AppendInt
    simp only [yK, iteB_dec]
    by_cases c : n < 0
    · have ha := app1 p [45] (by simp; omega)
      rw [if_pos c, ha, zY, zY]
      obtain ⟨q, h1, h2⟩ := AppendUint_ex (p ++ [45]) (IntKind.u64.wrap (-IntKind.u64.wrap n)) (u64_rng _) (by simp; omega)
      simp only []
      rw [h1, zY]
      exact ⟨q, rfl, by simp at h2; omega⟩
    · rw [if_neg c, zY]
      obtain ⟨q, h1, h2⟩ := AppendUint_ex p (IntKind.u64.wrap n) (u64_rng _) (by omega)
      simp only []
      rw [h1, zY]
      exact ⟨q, rfl, by omega⟩
  obtain ⟨q, h1, h2⟩ := e
  unfold F_strconv_AppendInt
  rw [h1, zY]
  exact ⟨q, rfl, h2⟩
def Gr (r : Option Orangeboxref0Ink) (n : Nat) : Prop := ∃ q, r = some q ∧ q.out.length ≤ n
theorem Gr.bind {a : Option Orangeboxref0Ink} {k : Orangeboxref0Ink → Option Orangeboxref0Ink} {n m : Nat} (h : Gr a n) (hk : ∀ q, q.out.length ≤ n → Gr (k q) m) : Gr (bindO a k) m := by
  obtain ⟨q, h1, h2⟩ := h
  rw [h1, zY]; exact hk q h2
theorem Gr.get {r : Option Orangeboxref0Ink} {n : Nat} (h : Gr r n) : ∃ q, r = Option.some q ∧ q.out.length ≤ n := h
theorem Gr.some {q : Orangeboxref0Ink} {n : Nat} (h : q.out.length ≤ n) : Gr (Option.some q) n := ⟨q, rfl, h⟩
theorem ink_Int (p : Orangeboxref0Ink) (n : Int) {b : Nat} (hp : p.out.length ≤ b) (h : b ≤ 100000000000000) : Gr (F_ref0_Ink_Int p n) (b + 22) := by
  obtain ⟨q, h1, h2⟩ := AppendInt_ex p.out n (by omega)
  unfold F_ref0_Ink_Int
  rw [h1, zY]
  simp only [yK]
  rw [app1 q [32] (by simp; omega), zY]
  exact Gr.some (by simp; omega)
theorem ink_Ints (p : Orangeboxref0Ink) (l : List Int) {b : Nat} (hp : p.out.length ≤ b) (h : b + 22 + 22 * l.length ≤ 100000000000000) : Gr (F_ref0_Ink_Ints p l) (b + 22 + 22 * l.length) := by
  unfold F_ref0_Ink_Ints
  simp only [yK]
  refine (ink_Int p _ hp (by omega)).bind fun q hq => ?_
  unfold F_ref0_Ink_Ints_L1
  refine loopO_inv (fun (i : Nat) (s : List Int) => ((i : Int), s)) l (fun i s => s.length ≤ b + 22 + 22 * i) (fun (r : Orangeboxref0Ink) => r.out.length ≤ b + 22 + 22 * l.length) (by omega) ?_ ?_ _ (by simpa using hq)
  · intro kk i s x hx hi hI
    obtain ⟨r, h1, h2⟩ := ink_Int (Orangeboxref0Ink.mk s) x hI (by omega)
    refine ⟨r.out, by omega, ?_⟩
    simp only [yK]
    rw [wC hi, yX, at_ok hx, zY, h1, zY, wrap1 hi (by omega)]
  · intro kk s hI
    simp only [yK]
    rw [wF, yY]
    exact ⟨_, rfl, hI⟩
theorem ink_Text (p : Orangeboxref0Ink) (s : Str) {b : Nat} (hp : p.out.length ≤ b) (h : b + 22 + s.length ≤ 100000000000000) : Gr (F_ref0_Ink_Text p s) (b + 22 + s.length) := by
  unfold F_ref0_Ink_Text
  simp only [yK]
  refine (ink_Int p _ hp (by omega)).bind fun q hq => ?_
  rw [app1 q.out (nums s) (by rw [nums_len]; omega), zY]
  exact Gr.some (by simp [nums_len]; omega)
theorem ink_Texts (p : Orangeboxref0Ink) (l : List Str) {b : Nat} (hs : ∀ s ∈ l, s.length ≤ 30) (hp : p.out.length ≤ b) (h : b + 22 + 52 * l.length ≤ 100000000000000) : Gr (F_ref0_Ink_Texts p l) (b + 22 + 52 * l.length) := by
  unfold F_ref0_Ink_Texts
  simp only [yK]
  refine (ink_Int p _ hp (by omega)).bind fun q hq => ?_
  unfold F_ref0_Ink_Texts_L1
  refine loopO_inv (fun (i : Nat) (s : List Int) => ((i : Int), s)) l (fun i s => s.length ≤ b + 22 + 52 * i) (fun (r : Orangeboxref0Ink) => r.out.length ≤ b + 22 + 52 * l.length) (by omega) ?_ ?_ _ (by simpa using hq)
  · intro kk i s x hx hi hI
    have hxl := hs x (List.mem_of_getElem? hx)
    obtain ⟨r, h1, h2⟩ := ink_Text (Orangeboxref0Ink.mk s) x hI (by omega)
    refine ⟨r.out, by omega, ?_⟩
    simp only [yK]
    rw [wC hi, yX, at_ok hx, zY, h1, zY, wrap1 hi (by omega)]
  · intro kk s hI
    simp only [yK]
    rw [wF, yY]
    exact ⟨_, rfl, hI⟩
mutual
def nmC : Cond → Prop
  | ⟨_, nm, ot, _, _, _, ks⟩ => (nm.length ≤ 30 ∧ ot.length ≤ 30) ∧ nmCs ks
def nmCs : List Cond → Prop
  | [] => True
  | c :: l => nmC c ∧ nmCs l
end
theorem nmC_eq (c : Cond) : nmC c ↔ (c.Name.length ≤ 30 ∧ c.Other.length ≤ 30) ∧ nmCs c.Kids := by cases c; rfl
theorem nmCs_iff : ∀ (l : List Cond), nmCs l ↔ ∀ c ∈ l, nmC c
  | [] => by simp [nmCs]
  | c :: l => by rw [nmCs, nmCs_iff l]; simp
theorem gt_nmC : ∀ (n : Nat) (c : Cond), dN c ≤ n → Gt c → nmC c
  | 0, c, h, _ => by have := dN_pos c; omega
  | n + 1, c, h, g => by
    refine (nmC_eq c).2 ⟨⟨g.self.nm, g.self.ot⟩, (nmCs_iff _).2 fun x hx => ?_⟩
    obtain ⟨j, hj⟩ := List.getElem?_of_mem hx
    have := (kid_ok g.ok hj).2.1
    exact gt_nmC n x (by omega) (g.kid hx)
theorem cNs_snoc : ∀ (l : List Cond) (x : Cond), cNs (l ++ [x]) = cNs l + cN x
  | [], x => by simp [cNs]
  | c :: l, x => by rw [List.cons_append, cNs, cNs, cNs_snoc l x]; omega
theorem ink_Cond_R : ∀ (n : Nat) (c : Cond) (p : Orangeboxref0Ink) (b : Nat), dN c ≤ n → nmC c → cN c ≤ 1000 → p.out.length ≤ b → b + 258 * cN c ≤ 1000000000000 → Gr (F_ref0_Ink_Cond_R n p c) (b + 258 * cN c)
  | 0, c, _, _, h, _, _, _, _ => by have := dN_pos c; omega
  | n + 1, c, p, b, h, hn, hc, hp, hb => by
    have hcc := cN_eq c
    have hl := len_cNs c.Kids
    have hd := dN_eq c
    obtain ⟨⟨n1, n2⟩, n3⟩ := (nmC_eq c).1 hn
    have n3 := (nmCs_iff _).1 n3
    show Gr (F_ref0_Ink_Cond_B (F_ref0_Ink_Cond_R n) p c) _
    unfold F_ref0_Ink_Cond_B
    simp only [yK]
    have q1 := ink_Ints p [c.Kind, c.Op, c.N, c.Frames, (c.Kids.length : Int)] hp (by simp; omega)
    refine q1.bind fun p1 h1 => ?_
    simp only [List.length_cons, List.length_nil] at h1
    have q2 := ink_Texts p1 [c.Name, c.Other] (b := b + 132) (by intro s hs; simp only [List.mem_cons, List.not_mem_nil, or_false] at hs; rcases hs with rfl | rfl <;> assumption) (by omega) (by simp; omega)
    refine q2.bind fun p2 h2 => ?_
    simp only [List.length_cons, List.length_nil] at h2
    unfold F_ref0_Ink_Cond_B_L1
    refine loopO_inv (fun (i : Nat) (s : List Int) => ((i : Int), s)) c.Kids (fun i s => s.length ≤ b + 258 + 258 * cNs (c.Kids.take i)) (fun (r : Orangeboxref0Ink) => r.out.length ≤ b + 258 * cN c) (by omega) ?_ ?_ _ (by simp [cNs]; omega)
    · intro kk i s x hx hi hI
      have hm := List.mem_of_getElem? hx
      have m1 := mem_dNs hm
      have m2 := mem_cNs hm
      have e := cNs_snoc (c.Kids.take i) x
      rw [← take_snoc hx] at e
      have m3 : cNs (c.Kids.take (i + 1)) ≤ cNs c.Kids := by
        have key : ∀ (l : List Cond) (j : Nat), cNs (l.take j) ≤ cNs l := by
          intro l
          induction l with
          | nil => intro j; simp [cNs]
          | cons a l ih => intro j; cases j with
            | zero => simp [cNs]
            | succ j => rw [List.take_succ_cons, cNs, cNs]; have := ih j; omega
        exact key _ _
      obtain ⟨r, h3, h4⟩ := ink_Cond_R n x (Orangeboxref0Ink.mk s) (b + 258 + 258 * cNs (c.Kids.take i)) (by omega) (n3 x hm) (by omega) hI (by omega)
      refine ⟨r.out, by omega, ?_⟩
      simp only [yK]
      rw [wC hi, yX, at_ok hx, zY, h3, zY, wrap1 hi (by omega)]
    · intro kk s hI
      simp only [yK]
      rw [wF, yY]
      rw [List.take_length] at hI
      exact ⟨_, rfl, by simp only; omega⟩
def Bd (c : Cond) : Prop := dN c ≤ 20 ∧ cN c ≤ 200 ∧ nmC c
theorem Gt.bd {c : Cond} (g : Gt c) : Bd c := ⟨g.d, g.n, gt_nmC 20 c g.d g⟩
theorem ink_Cond {c : Cond} (h : Bd c) (p : Orangeboxref0Ink) (b : Nat) (hp : p.out.length ≤ b) (hb : b ≤ 1000000000) : Gr (F_ref0_Ink_Cond p c) (b + 60000) := by
  obtain ⟨q, h1, h2⟩ := ink_Cond_R FU c p b (Nat.le_of_lt (FU_gt (by have := h.1; omega))) h.2.2 (by have := h.2.1; omega) hp (by have := h.2.1; omega)
  exact ⟨q, h1, by have := h.2.1; omega⟩
structure Br (r : Rules) : Prop where
  p : r.Phases.length ≤ 100
  m : r.Moves.length ≤ 200
  l : r.Rules.length ≤ 200
  pn : ∀ x ∈ r.Phases, x.length ≤ 30
  mg : ∀ x ∈ r.Moves, Bd x.When ∧ x.From.length ≤ 30 ∧ x.To.length ≤ 30
  lg : ∀ x ∈ r.Rules, Bd x.When ∧ x.Name.length ≤ 30
theorem Gr'.br {r : Rules} (g : Gr' r) : Br r := by
  have h1 := g.p; have h2 := g.m; have h3 := g.l
  exact ⟨by omega, by omega, by omega, g.pn, fun x hx => ⟨(g.mg x hx).1.bd, (g.mg x hx).2⟩, fun x hx => ⟨(g.lg x hx).1.bd, (g.lg x hx).2⟩⟩
theorem br_nil : Br ⟨[], [], []⟩ := ⟨by decide, by decide, by decide, (fun _ h => nomatch h), (fun _ h => nomatch h), (fun _ h => nomatch h)⟩
theorem mulC {C : Nat} (hC : C = 60200) {i : Nat} (hi : i ≤ 200) : i * C ≤ 12040000 := by
  subst hC
  exact Nat.mul_le_mul_right 60200 hi
theorem ink_Rules {r : Rules} (g : Br r) (p : Orangeboxref0Ink) (hp : p.out.length ≤ 0) : Gr (F_ref0_Ink_Rules p r) 30000000 := by
  have h1 := g.p; have h2 := g.m; have h3 := g.l
  obtain ⟨C, hC⟩ : ∃ C, C = 60200 := ⟨_, rfl⟩
  unfold F_ref0_Ink_Rules
  simp only [yK]
  refine (ink_Texts p r.Phases g.pn hp (by omega)).bind fun p1 q1 => ?_
  refine (ink_Int p1 _ q1 (by omega)).bind fun p2 q2 => ?_
  have a1 : ∃ s, F_ref0_Ink_Rules_L1 r (0, p2.out) = some s ∧ s.length ≤ 10000 + r.Moves.length * C := by
    unfold F_ref0_Ink_Rules_L1
    refine loopO_inv (fun (i : Nat) (s : List Int) => ((i : Int), s)) r.Moves (fun i s => s.length ≤ 10000 + i * C) (fun (s : List Int) => s.length ≤ 10000 + r.Moves.length * C) (by omega) ?_ ?_ _ (by omega)
    · intro kk i s x hx hi hI
      have m1 := mulC hC (i := i) (by omega)
      have m2 : (i + 1) * C = i * C + C := Nat.succ_mul i C
      obtain ⟨B, hB⟩ : ∃ B, B = 10000 + i * C := ⟨_, rfl⟩
      have hI : s.length ≤ B := by omega
      have gx := g.mg x (List.mem_of_getElem? hx)
      obtain ⟨t, t1, t2⟩ := ink_Texts (Orangeboxref0Ink.mk s) [x.From, x.To] (b := B) (by intro s hs; simp only [List.mem_cons, List.not_mem_nil, or_false] at hs; rcases hs with rfl | rfl; exact gx.2.1; exact gx.2.2) hI (by simp; omega)
      simp only [List.length_cons, List.length_nil] at t2
      obtain ⟨u, u1, u2⟩ := (ink_Cond gx.1 t (B + 126) (by omega) (by omega)).get
      have z : u.out.length ≤ 10000 + (i + 1) * C := by omega
      refine ⟨u.out, z, ?_⟩
      simp only [yK]
      rw [wC hi, yX, at_ok hx, zY, zY, t1, zY, zY, u1, zY, wrap1 hi (by omega)]
    · intro kk s hI
      simp only [yK]
      rw [wF, yY]
      exact ⟨_, rfl, hI⟩
  obtain ⟨s, s1, s2⟩ := a1
  have mm := mulC hC h2
  rw [s1, zY]
  refine (ink_Int (Orangeboxref0Ink.mk s) _ (b := 10000 + r.Moves.length * C) s2 (by omega)).bind fun p3 q3 => ?_
  unfold F_ref0_Ink_Rules_L2
  refine loopO_inv (fun (i : Nat) (s : List Int) => ((i : Int), s)) r.Rules (fun i s => s.length ≤ 15000000 + i * C) (fun (s : Orangeboxref0Ink) => s.out.length ≤ 30000000) (by omega) ?_ ?_ _ (by omega)
  · intro kk i s x hx hi hI
    have m1 := mulC hC (i := i) (by omega)
    have m2 : (i + 1) * C = i * C + C := Nat.succ_mul i C
    obtain ⟨B, hB⟩ : ∃ B, B = 15000000 + i * C := ⟨_, rfl⟩
    have hI : s.length ≤ B := by omega
    have gx := g.lg x (List.mem_of_getElem? hx)
    have gl := gx.2
    obtain ⟨t, t1, t2⟩ := ink_Text (Orangeboxref0Ink.mk s) x.Name (b := B) hI (by omega)
    obtain ⟨u, u1, u2⟩ := (ink_Cond gx.1 t (B + 52) (by omega) (by omega)).get
    have z : u.out.length ≤ 15000000 + (i + 1) * C := by omega
    refine ⟨u.out, z, ?_⟩
    simp only [yK]
    rw [wC hi, yX, at_ok hx, zY, t1, zY, zY, u1, zY, wrap1 hi (by omega)]
  · intro kk s hI
    have m1 := mulC hC (i := r.Rules.length) h3
    simp only [yK]
    rw [wF, yY]
    exact ⟨_, rfl, (by omega : s.length ≤ 30000000)⟩
theorem told_ex {r : Rules} (g : Br r) (n e : Int) : ∃ t, F_law6_told r n e = some t := by
  unfold F_law6_told
  obtain ⟨q, h1, h2⟩ := ink_Rules g (Orangeboxref0Ink.mk []) (by simp)
  obtain ⟨q2, h3, h4⟩ := ink_Int q n h2 (by omega)
  obtain ⟨q3, h5, h6⟩ := ink_Int q2 e h4 (by omega)
  rw [h1, zY, h3, zY]
  unfold F_ref0_Ink_Errno F_ref0_Ink_Told
  rw [h5]
  exact ⟨_, rfl⟩
/-! ### The law -/
mutual
theorem slw_cN (k : Int) : ∀ c, cN (slw k c) = cN c
  | ⟨kd, nm, ot, op, n, fr, ks⟩ => by rw [slw, cN, cN, slws_cN k ks]
theorem slws_cN (k : Int) : ∀ l, cNs (slws k l) = cNs l
  | [] => rfl
  | c :: l => by rw [slws, cNs, cNs, slw_cN k c, slws_cN k l]
end
mutual
theorem slw_dN (k : Int) : ∀ c, dN (slw k c) = dN c
  | ⟨kd, nm, ot, op, n, fr, ks⟩ => by rw [slw, dN, dN, slws_dN k ks]
theorem slws_dN (k : Int) : ∀ l, dNs (slws k l) = dNs l
  | [] => rfl
  | c :: l => by rw [slws, dNs, dNs, slw_dN k c, slws_dN k l]
end
mutual
theorem slw_nm (k : Int) : ∀ c, nmC c → nmC (slw k c)
  | ⟨kd, nm, ot, op, n, fr, ks⟩ => by rw [slw, nmC, nmC]; exact fun h => ⟨h.1, slws_nm k ks h.2⟩
theorem slws_nm (k : Int) : ∀ l, nmCs l → nmCs (slws k l)
  | [] => fun h => h
  | c :: l => by rw [slws, nmCs, nmCs]; exact fun h => ⟨slw_nm k c h.1, slws_nm k l h.2⟩
end
theorem slw_bd (k : Int) {c : Cond} (h : Bd c) : Bd (slw k c) := ⟨by rw [slw_dN]; exact h.1, by rw [slw_cN]; exact h.2.1, slw_nm k c h.2.2⟩
theorem slwr_br {r : Rules} {k e : Int} (ok : okR r) (he : chk r = some e) : Br (slwr r k e).1 := by
  unfold slwr
  split
  · rename_i z
    subst z
    have g := (chk_good ok he).br
    split
    · refine ⟨g.p, by simpa using g.m, by simpa using g.l, g.pn, ?_, ?_⟩
      · intro x hx
        obtain ⟨y, hy, rfl⟩ := List.mem_map.1 hx
        exact ⟨slw_bd k (g.mg y hy).1, (g.mg y hy).2⟩
      · intro x hx
        obtain ⟨y, hy, rfl⟩ := List.mem_map.1 hx
        exact ⟨slw_bd k (g.lg y hy).1, (g.lg y hy).2⟩
    · exact br_nil
  · exact br_nil
theorem mrgd_br {a b : Rules} (oa : okR a) (ob : okR b) {ea eb eo : Int} (ha : chk a = some ea) (hb : chk b = some eb) (ho : chk (mrg a b) = some eo) : Br (mrgd a b ea eb eo).1 := by
  unfold mrgd
  split
  · rename_i z
    subst z
    split
    · rename_i y
      subst y
      split
      · rename_i w
        subst w
        exact (chk_good (okR_mrg (chk_good oa ha) (chk_good ob hb) oa ob) ho).br
      · exact br_nil
    · exact br_nil
  · exact br_nil
set_option maxRecDepth 1000000 in
theorem reads_true : F_law6_reads = some true := by kernel_rfl
theorem law_Slower (r : Rules) (k : Int) (q : Rules) (hr : okR r) (_ : i64 k) (hq : okR q) : F_law6_EventSlowerMatchesSpec r k q = some true := by
  obtain ⟨ea, ha⟩ := chk_some r
  obtain ⟨eb, hb⟩ := chk_some q
  obtain ⟨eo, ho⟩ := chk_some (mrg r q)
  obtain ⟨s1, s2⟩ := Slower_eq r k ea hr ha
  obtain ⟨m1, m2⟩ := Merge_eq r q hr hq ea eb eo ha hb ho
  obtain ⟨t1, h1⟩ := told_ex (slwr_br (k := k) hr ha) 0 (slwr r k ea).2
  obtain ⟨t2, h2⟩ := told_ex (mrgd_br hr hq ha hb ho) 0 (mrgd r q ea eb eo).2
  unfold F_law6_EventSlowerMatchesSpec
  simp only [s1, s2, m1, m2, h1, h2, zY, yK, ne_eq, not_true_eq_false, decide_true, decide_false, yX, yY, reads_true]
end Go.Lf
namespace Go.Lf
open Go.OB
def okCond (c : Cond) : Prop := okC c
theorem okCond_mk {a0 : Int} {a1 a2 : Str} {a3 a4 a5 : Int} {a6 : List Cond} (k0 : i64 a0) (k1 : okS a1) (k2 : okS a2) (k3 : i64 a3) (k4 : i64 a4) (k5 : i64 a5) (k6 : a6.length ≤ 9223372036854775807 ∧ ∀ x ∈ a6, okCond x) : okCond ⟨a0, a1, a2, a3, a4, a5, a6⟩ :=
  (okC_eq _).2 ⟨⟨k0, k1, k2, k3, k4, k5⟩, k6.1, (okCs_iff _).2 k6.2⟩
def okMoveT (x : MoveT) : Prop := okS x.From ∧ okS x.To ∧ okCond x.When
def okRule (x : Rule) : Prop := okS x.Name ∧ okCond x.When
def okRules (x : Rules) : Prop := okL (fun x => okS x) x.Phases ∧ okL (fun x => okMoveT x) x.Moves ∧ okL (fun x => okRule x) x.Rules
theorem law_Slower2 (r : Rules) (k : Int) (q : Rules) (hr : okRules r) (hk : i64 k) (hq : okRules q) : F_law6_EventSlowerMatchesSpec r k q = some true := law_Slower r k q hr hk hq
end Go.Lf
