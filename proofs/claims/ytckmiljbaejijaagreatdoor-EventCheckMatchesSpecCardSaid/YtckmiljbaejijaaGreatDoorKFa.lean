/- Walks: what each function computes, for every argument; no condition but those that stand in the statements. -/
import Derived.Test.YtckmiljbaejijaaGreatDoorSCa
namespace Go.Lf
open Go.OB
structure Gk (c : Cond) : Prop where
  z : c.Kind ≤ 7 → c.Kids.length = 0
  o : (c.Kind = 8 ∨ c.Kind = 11 ∨ c.Kind = 12 ∨ c.Kind = 13 ∨ c.Kind = 15) → c.Kids.length = 1
  t : c.Kind = 14 → c.Kids.length = 2
  g : (c.Kind = 9 ∨ c.Kind = 10) → 2 ≤ c.Kids.length
  fr : (c.Kind = 5 ∨ c.Kind = 11 ∨ c.Kind = 12 ∨ c.Kind = 13) → 1 ≤ c.Frames
  cn : c.Kind = 13 → 1 ≤ c.N ∧ c.N ≤ c.Frames
  st : c.Kind = 5 → 0 ≤ c.N
  op : (c.Kind = 3 ∨ c.Kind = 4) → 1 ≤ c.Op
set_option maxHeartbeats 20000000 in
theorem gk_in (nm ot : Str) (op n fr : Int) (ks : List Cond) (k : Int) (hk2 : k = 1 ∨ k = 2 ∨ k = 3 ∨ k = 4 ∨ k = 5 ∨ k = 6 ∨ k = 7 ∨ k = 8 ∨ k = 9 ∨ k = 10 ∨ k = 11 ∨ k = 12 ∨ k = 13 ∨ k = 14 ∨ k = 15) (h1 : okS nm) (h2 : okS ot) (h : F_ref6_nodeFault ⟨k, nm, ot, op, n, fr, ks⟩ = some 0) : Gk ⟨k, nm, ot, op, n, fr, ks⟩ := by
  rcases hk2 with rfl | rfl | rfl | rfl | rfl | rfl | rfl | rfl | rfl | rfl | rfl | rfl | rfl | rfl | rfl <;>
    (unfold F_ref6_nodeFault at h
     simp only [rf1, rf2, rf3, rf4, rf5, rf6, rf7, rf8, rf9, rf10, rf11, rf12, rf13, rf14, rf15, zV, yH, Bool.not_true, Bool.not_false, yU, yQ, joinO_eq, out6, rIsName_eq _ h1, rIsName_eq _ h2, Int.reduceEq, Int.reduceLT, Int.reduceLE, decide_true, decide_false, Bool.or_self, iteB_or, iteB_or2, iteB_and] at h
     simp only [iteB_ite] at h
     constructor <;> grind)
theorem gk_of {c : Cond} (ok : okC c) (hk : c.Kids.length ≤ 200) (h : ck1 c = 0) : Gk c := by
  have e := (ck_both c (okN_of ok) hk).2
  rw [h] at e
  by_cases hb : 1 ≤ c.Kind ∧ c.Kind ≤ 15
  · have o := okN_of ok
    obtain ⟨k, nm, ot, op, n, fr, ks⟩ := c
    have hk2 : k = 1 ∨ k = 2 ∨ k = 3 ∨ k = 4 ∨ k = 5 ∨ k = 6 ∨ k = 7 ∨ k = 8 ∨ k = 9 ∨ k = 10 ∨ k = 11 ∨ k = 12 ∨ k = 13 ∨ k = 14 ∨ k = 15 := by have := hb.1; have := hb.2; simp only at *; omega
    exact gk_in nm ot op n fr ks k hk2 o.1 o.2 e
  · rw [(chk_no c hb).2] at e
    cases e
theorem Gt.gk {c : Cond} (g : Gt c) : Gk c := by
  have h := g.e
  rw [fE_eq] at h
  have h1 := len_cNs c.Kids
  have h2 := cN_eq c
  have h3 := g.n
  split at h
  · rename_i q; exact gk_of g.ok (by omega) q
  · rename_i q; exact absurd h q
end Go.Lf
namespace Go.Lf
open Go.OB
def nm1 (c : Cond) : List Str := if c.Kind = 3 ∨ c.Kind = 5 then [c.Name] else if c.Kind = 4 then [c.Name, c.Other] else []
mutual
def nmsC : Cond → List Str
  | ⟨k, nm, ot, op, n, fr, ks⟩ => nm1 ⟨k, nm, ot, op, n, fr, ks⟩ ++ nmsCs ks
def nmsCs : List Cond → List Str
  | [] => []
  | c :: l => nmsC c ++ nmsCs l
end
theorem nmsC_eq (c : Cond) : nmsC c = nm1 c ++ nmsCs c.Kids := by cases c; rfl
theorem nm1_len (c : Cond) : (nm1 c).length ≤ 2 := by unfold nm1; split <;> (try split) <;> simp
mutual
theorem nmsC_len : ∀ c, (nmsC c).length ≤ 2 * cN c
  | ⟨k, nm, ot, op, n, fr, ks⟩ => by
    have h := nmsCs_len ks
    have h1 := nm1_len ⟨k, nm, ot, op, n, fr, ks⟩
    rw [nmsC_eq, List.length_append, cN_eq]
    show _ + (nmsCs ks).length ≤ 2 * (1 + cNs ks)
    omega
theorem nmsCs_len : ∀ l, (nmsCs l).length ≤ 2 * cNs l
  | [] => by simp [nmsCs]
  | c :: l => by
    have h := nmsC_len c
    have h1 := nmsCs_len l
    rw [nmsCs, List.length_append, cNs]; omega
end
theorem app16 {α : Type} (p q : List α) (h : p.length + q.length ≤ 8000000000000) : app' 16 p q = some (p ++ q) := by
  unfold app'
  rw [if_pos ⟨by rw [maxLen_eq]; omega, by omega⟩]
theorem app8 {α : Type} (p q : List α) (h : p.length + q.length ≤ 8000000000000) : app' 8 p q = some (p ++ q) := by
  unfold app'
  rw [if_pos ⟨by rw [maxLen_eq]; omega, by omega⟩]
theorem nm_step (c : Cond) (l : List Str) (h : l.length ≤ 7000000000000) : F_event_namesIn_1 c l = some (0, l ++ nm1 c) := by
  unfold F_event_namesIn_1 nm1
  simp only [yH, iteB_dec, zV]
  by_cases h3 : c.Kind = 3
  · simp only [h3, if_pos, true_or, decide_true, zV, yU]
    rw [app16 l _ (by simp; omega), zV, zV]
  · by_cases h5 : c.Kind = 5
    · simp only [h5, show ¬ ((5 : Int) = 3) by decide, if_neg, if_pos, or_true, decide_true, zV, yU, if_false]
      rw [app16 l _ (by simp; omega), zV, zV]
    · simp only [h3, h5, if_neg, decide_false, zV, yQ, false_or, or_self, if_false]
      by_cases h4 : c.Kind = 4
      · simp only [h4, if_pos]
        rw [app16 l _ (by simp; omega), zV, zV]
      · simp only [h4, if_neg, if_false, zV, List.append_nil, not_false_eq_true]
theorem each4_R : ∀ (n : Nat) (c : Cond) (l : List Str), dN c ≤ n → okC c → l.length + 2 * cN c ≤ 7000000000000 → F_event_each_event_namesIn_1_R n c l = some (0, l ++ nmsC c)
  | 0, c, _, h, _, _ => by have := dN_pos c; omega
  | n + 1, c, l, h, ok, hc => by
    have hlen := ((okC_eq c).1 ok).2.1
    have hcc := cN_eq c
    have h1 := nm1_len c
    show F_event_each_event_namesIn_1_B (F_event_each_event_namesIn_1_R n) c l = _
    unfold F_event_each_event_namesIn_1_B
    rw [nm_step c l (by omega), zV]
    simp only [yH, joinO_eq]
    rw [decide_eq_false (by simp), yQ]
    unfold F_event_each_event_namesIn_1_B_L1
    have key : ∀ (B : (Int × List Str → Option (Int × List Str)) → Int × List Str → Option (Int × List Str)) (_ : ∀ k (i : Int) (s : List Str), B k (i, s) = letO (decide (i < (c.Kids.length : Int))) fun x => iteB x (bindO (at' c.Kids i) fun x422 => bindO (F_event_each_event_namesIn_1_R n x422 s) fun p => letO (decide (p.1 ≠ 0)) fun x450 => iteB x450 (some (p.1, p.2)) (letO (IntKind.i64.wrap (i + 1)) fun x454 => k (x454, p.2))) (some (0, s)))
        (d i : Nat) (s : List Str) (fu : Nat), i + d = c.Kids.length → d < fu → s.length + 2 * cNs (c.Kids.drop i) ≤ 7000000000000 → loopN B fu ((i : Int), s) = some (0, s ++ nmsCs (c.Kids.drop i)) := by
      intro B hB d
      induction d with
      | zero =>
        intro i s fu h1 h2 h3
        obtain ⟨f, rfl⟩ : ∃ f, fu = f + 1 := ⟨fu - 1, by omega⟩
        obtain rfl : i = c.Kids.length := by omega
        rw [loopN, hB]
        simp only [yH, xX, yQ, List.drop_length, nmsCs, List.append_nil]
      | succ d ih =>
        intro i s fu h1 h2 h3
        obtain ⟨f, rfl⟩ : ∃ f, fu = f + 1 := ⟨fu - 1, by omega⟩
        have hi : i < c.Kids.length := by omega
        have hx : c.Kids[i]? = some c.Kids[i] := List.getElem?_eq_getElem hi
        obtain ⟨k1, k2, k3⟩ := kid_ok ok hx
        have hdr := List.drop_eq_getElem_cons hi
        rw [hdr, cNs] at h3
        have hl := nmsC_len c.Kids[i]
        rw [loopN, hB]
        simp only [yH]
        rw [xR hi, yU, at_ok hx, zV, each4_R n _ s (by omega) k1 (by omega), zV]
        simp only []
        rw [decide_eq_false (by simp), yQ, wrap1 hi hlen, ih (i + 1) _ f (by omega) (by omega) (by rw [List.length_append]; omega), hdr, nmsCs, List.append_assoc]
    unfold loopO
    refine (key _ (fun _ _ _ => rfl) c.Kids.length 0 (l ++ nm1 c) FU (by omega) (FU_big hlen) (by rw [List.length_append, List.drop_zero]; omega)).trans ?_
    rw [List.drop_zero, List.append_assoc, ← nmsC_eq]
theorem namesIn_eq {c : Cond} (g : Gt c) : F_event_namesIn c = some (nmsC c) := by
  have := g.d; have := g.n
  unfold F_event_namesIn F_event_each_event_namesIn_1
  rw [each4_R FU c [] (Nat.le_of_lt (FU_gt (by omega))) g.ok (by simp; omega), zV, List.nil_append]
def allNm (r : Rules) : List Str := (r.Moves.flatMap fun m => nmsC m.When) ++ r.Rules.flatMap fun x => nmsC x.When
theorem flat_len {α : Type} (f : α → List Str) (K : Nat) : ∀ (l : List α), (∀ x ∈ l, (f x).length ≤ K) → (l.flatMap f).length ≤ l.length * K
  | [], _ => by simp
  | x :: l, h => by
    have h1 := h x List.mem_cons_self
    have h2 := flat_len f K l fun y hy => h y (List.mem_cons_of_mem _ hy)
    rw [List.flatMap_cons, List.length_append, List.length_cons, Nat.succ_mul]; omega
theorem allNm_len {r : Rules} (g : Gr' r) : (allNm r).length ≤ 48000 := by
  have h1 := flat_len (fun m : MoveT => nmsC m.When) 400 r.Moves fun x hx => by have := nmsC_len x.When; have := (g.mg x hx).1.n; omega
  have h2 := flat_len (fun m : Rule => nmsC m.When) 400 r.Rules fun x hx => by have := nmsC_len x.When; have := (g.lg x hx).1.n; omega
  have := g.m; have := g.l
  unfold allNm; rw [List.length_append]; omega
theorem tracksIn_eq {r : Rules} (g : Gr' r) : F_event_tracksIn r = some (cmpS1 (srtS (allNm r))) := by
  have hm := g.m; have hl := g.l
  have e1 : F_event_tracksIn_L1 r (r.Moves.length : Int) ([], 0) = some (r.Moves.flatMap fun m => nmsC m.When) := by
    have key : ∃ q, F_event_tracksIn_L1 r (r.Moves.length : Int) ([], 0) = some q ∧ q = r.Moves.flatMap fun m => nmsC m.When := by
      unfold F_event_tracksIn_L1
      refine loopO_inv (fun (i : Nat) (s : List Str) => (s, (i : Int))) r.Moves (fun i s => s = (r.Moves.take i).flatMap fun m => nmsC m.When) (fun s => s = r.Moves.flatMap fun m => nmsC m.When) (by omega) ?_ ?_ [] (by simp)
      · intro k i s x hx hi hI
        have gx := (g.mg x (List.mem_of_getElem? hx)).1
        have h1 := flat_len (fun m : MoveT => nmsC m.When) 400 (r.Moves.take i) fun y hy => by have := nmsC_len y.When; have := (g.mg y (List.mem_of_mem_take hy)).1.n; omega
        have h2 := nmsC_len x.When
        have h3 := gx.n
        have h4 : (r.Moves.take i).length ≤ 60 := by simp; omega
        refine ⟨s ++ nmsC x.When, by rw [hI, take_snoc hx]; simp, ?_⟩
        simp only [yH]
        rw [xR hi, yU, at_ok hx, zV, namesIn_eq gx, zV, app16 s _ (by rw [hI]; omega), zV, wrap1 hi (by omega)]
      · intro k s hI
        simp only [yH]
        rw [xX, yQ]
        exact ⟨_, rfl, by rw [hI, List.take_length]⟩
    obtain ⟨q, h1, rfl⟩ := key
    exact h1
  have e2 : F_event_tracksIn_L2 r (r.Rules.length : Int) (r.Moves.flatMap (fun m => nmsC m.When), 0) = some (allNm r) := by
    have key : ∃ q, F_event_tracksIn_L2 r (r.Rules.length : Int) (r.Moves.flatMap (fun m => nmsC m.When), 0) = some q ∧ q = allNm r := by
      unfold F_event_tracksIn_L2
      refine loopO_inv (fun (i : Nat) (s : List Str) => (s, (i : Int))) r.Rules (fun i s => s = (r.Moves.flatMap fun m => nmsC m.When) ++ (r.Rules.take i).flatMap fun m => nmsC m.When) (fun s => s = allNm r) (by omega) ?_ ?_ _ (by simp)
      · intro k i s x hx hi hI
        have gx := (g.lg x (List.mem_of_getElem? hx)).1
        have h0 := flat_len (fun m : MoveT => nmsC m.When) 400 r.Moves fun y hy => by have := nmsC_len y.When; have := (g.mg y hy).1.n; omega
        have h1 := flat_len (fun m : Rule => nmsC m.When) 400 (r.Rules.take i) fun y hy => by have := nmsC_len y.When; have := (g.lg y (List.mem_of_mem_take hy)).1.n; omega
        have h2 := nmsC_len x.When
        have h3 := gx.n
        have h4 : (r.Rules.take i).length ≤ 60 := by simp; omega
        refine ⟨s ++ nmsC x.When, by rw [hI, take_snoc hx]; simp, ?_⟩
        simp only [yH]
        rw [xR hi, yU, at_ok hx, zV, namesIn_eq gx, zV, app16 s _ (by rw [hI, List.length_append]; omega), zV, wrap1 hi (by omega)]
      · intro k s hI
        simp only [yH]
        rw [xX, yQ]
        exact ⟨_, rfl, by rw [hI, List.take_length]; rfl⟩
    obtain ⟨q, h1, rfl⟩ := key
    exact h1
  have hn := allNm_len g
  unfold F_event_tracksIn
  simp only [yH]
  rw [e1, zV, e2, zV]
  unfold X_SortStr X_CompactStr
  rw [if_pos (by omega), zV, if_pos (by rw [srtS_len]; omega), zV]
end Go.Lf
namespace Go.Lf
open Go.OB
def SS (l : List Str) : Prop := l.Pairwise fun a b => slt a b = true
theorem SS.ext {l m : List Str} (h1 : SS l) (h2 : SS m) (h : ∀ x, x ∈ l ↔ x ∈ m) : l = m := by
  induction l generalizing m with
  | nil =>
    cases m with
    | nil => rfl
    | cons b m => exact absurd ((h b).2 List.mem_cons_self) (by simp)
  | cons a l ih =>
    cases m with
    | nil => exact absurd ((h a).1 List.mem_cons_self) (by simp)
    | cons b m =>
      unfold SS at h1 h2
      rw [List.pairwise_cons] at h1 h2
      have e : a = b := by
        rcases List.mem_cons.1 ((h a).1 List.mem_cons_self) with q | q
        · exact q
        · rcases List.mem_cons.1 ((h b).2 List.mem_cons_self) with q2 | q2
          · exact q2.symm
          · have := slt_asymm (h2.1 a q)
            rw [h1.1 b q2] at this; cases this
      subst e
      rw [ih h1.2 h2.2 fun x => ?_]
      constructor
      · intro hx
        rcases List.mem_cons.1 ((h x).1 (List.mem_cons_of_mem _ hx)) with q | q
        · subst q; have := h1.1 x hx; rw [slt_irrefl] at this; cases this
        · exact q
      · intro hx
        rcases List.mem_cons.1 ((h x).2 (List.mem_cons_of_mem _ hx)) with q | q
        · subst q; have := h2.1 x hx; rw [slt_irrefl] at this; cases this
        · exact q
def putS : List Str → Str → List Str
  | [], s => [s]
  | x :: l, s => if slt x s = true then x :: putS l s else if x = s then x :: l else s :: x :: l
theorem putS_mem (s x : Str) : ∀ l, x ∈ putS l s ↔ x ∈ l ∨ x = s
  | [] => by simp [putS]
  | y :: l => by
    rw [putS]
    split
    · rw [List.mem_cons, putS_mem s x l, List.mem_cons]; simp only [or_assoc]
    · split
      · rename_i q; subst q; simp only [List.mem_cons]
        constructor
        · exact .inl
        · rintro (h | h)
          · exact h
          · exact .inl h
      · simp only [List.mem_cons]
        constructor
        · rintro (h | h)
          · exact .inr h
          · exact .inl h
        · rintro (h | h)
          · exact .inr h
          · exact .inl h
theorem putS_ss (s : Str) : ∀ l, SS l → SS (putS l s)
  | [], _ => by simp [putS, SS]
  | y :: l, h => by
    unfold SS at h
    rw [List.pairwise_cons] at h
    rw [putS]
    split
    · rename_i c
      refine List.pairwise_cons.2 ⟨fun x hx => ?_, putS_ss s l h.2⟩
      rcases (putS_mem s x l).1 hx with q | rfl
      · exact h.1 x q
      · exact c
    · rename_i c
      have c : slt y s = false := by simpa using c
      split
      · exact List.pairwise_cons.2 h
      · rename_i d
        have e : slt s y = true := by
          cases z : slt s y with
          | true => rfl
          | false => exact absurd (slt_tri y s c z) d
        refine List.pairwise_cons.2 ⟨fun x hx => ?_, List.pairwise_cons.2 h⟩
        rcases List.mem_cons.1 hx with rfl | q
        · exact e
        · exact slt_trans s y x e (h.1 x q)
theorem putS_len (s : Str) : ∀ l, (putS l s).length ≤ l.length + 1
  | [] => by simp [putS]
  | y :: l => by
    rw [putS]
    split
    · simp only [List.length_cons]; have := putS_len s l; omega
    · split <;> simp
theorem puts_mem (x : Str) : ∀ (xs l : List Str), x ∈ xs.foldl putS l ↔ x ∈ l ∨ x ∈ xs
  | [], l => by simp
  | y :: xs, l => by rw [List.foldl_cons, puts_mem x xs, putS_mem, List.mem_cons, or_assoc]
theorem puts_ss : ∀ (xs l : List Str), SS l → SS (xs.foldl putS l)
  | [], _, h => h
  | y :: xs, l, h => puts_ss xs _ (putS_ss y l h)
theorem puts_len : ∀ (xs l : List Str), (xs.foldl putS l).length ≤ l.length + xs.length
  | [], l => by simp
  | y :: xs, l => by
    rw [List.foldl_cons]
    have := puts_len xs (putS l y)
    have := putS_len y l
    simp only [List.length_cons]; omega
/-! ### Sorted, and each once -/
theorem srtS_mem (x : Str) (l : List Str) : x ∈ srtS l ↔ x ∈ l := List.mem_mergeSort
theorem srtS_asc (l : List Str) : (srtS l).Pairwise fun a b => slt b a = false := by
  have := List.pairwise_mergeSort (le := fun x y : Str => !slt y x) (fun a b c h1 h2 => by
    simp only [Bool.not_eq_true'] at *
    exact slt_ntrans c b a h2 h1) (fun a b => by
    cases h : slt b a with
    | false => rfl
    | true => simp [slt_asymm h]) l
  exact this.imp fun h => by simpa using h
theorem compact_inv (d : Array Str) (hd : ∀ i j, i < j → j < d.size → slt d[j]! d[i]! = false) : ∀ m, m ≤ d.size → SS (Lib.compactUpTo d m) ∧ (∀ x, x ∈ Lib.compactUpTo d m ↔ ∃ j, j < m ∧ d[j]! = x) ∧ (∀ x ∈ Lib.compactUpTo d m, x = d[m - 1]! ∨ slt x d[m - 1]! = true)
  | 0, _ => by simp [Lib.compactUpTo, SS]
  | m + 1, hm => by
    obtain ⟨h1, h2, h3⟩ := compact_inv d hd m (by omega)
    have hx : ∀ x, (∃ j, j < m + 1 ∧ d[j]! = x) ↔ (∃ j, j < m ∧ d[j]! = x) ∨ x = d[m]! := by
      intro x
      constructor
      · rintro ⟨j, hj, e⟩
        by_cases c : j = m
        · subst c; exact .inr e.symm
        · exact .inl ⟨j, by omega, e⟩
      · rintro (⟨j, hj, e⟩ | e)
        · exact ⟨j, by omega, e⟩
        · exact ⟨m, by omega, e.symm⟩
    rw [Lib.compactUpTo_succ, Nat.add_sub_cancel]
    by_cases c : m = 0
    · subst c
      have : Lib.keeps d 0 = true := Lib.keeps_lt_one d 0 (by omega)
      rw [this, if_pos rfl]
      have e0 : Lib.compactUpTo d 0 = [] := rfl
      rw [e0, List.nil_append]
      refine ⟨by simp [SS], fun x => ?_, fun x hx => .inl (List.mem_singleton.1 hx)⟩
      rw [hx]; simp
    · by_cases q : d[m]! = d[m - 1]!
      · rw [Lib.keeps_neg (by omega) q, if_neg (by simp), List.append_nil, q]
        refine ⟨h1, fun x => ?_, h3⟩
        rw [hx, h2]
        constructor
        · exact .inl
        · rintro (h | h)
          · exact h
          · exact ⟨m - 1, by omega, by rw [← q]; exact h.symm⟩
      · have lt : slt d[m - 1]! d[m]! = true := by
          cases z : slt d[m - 1]! d[m]! with
          | true => rfl
          | false => exact absurd (slt_tri _ _ (hd (m - 1) m (by omega) (by omega)) z) q
        rw [Lib.keeps_pos q, if_pos rfl]
        refine ⟨?_, fun x => ?_, fun x hx' => ?_⟩
        · unfold SS
          rw [List.pairwise_append]
          refine ⟨h1, by simp, fun a ha b hb => ?_⟩
          obtain rfl := List.mem_singleton.1 hb
          rcases h3 a ha with e | e
          · rw [e]; exact lt
          · exact slt_trans _ _ _ e lt
        · rw [List.mem_append, h2, List.mem_singleton, hx]
        · rcases List.mem_append.1 hx' with h | h
          · rcases h3 x h with e | e
            · rw [e]; exact .inr lt
            · exact .inr (slt_trans _ _ _ e lt)
          · exact .inl (List.mem_singleton.1 h)
theorem cmp_srt (l : List Str) : SS (cmpS1 (srtS l)) ∧ ∀ x, x ∈ cmpS1 (srtS l) ↔ x ∈ l := by
  have hs := srtS_asc l
  obtain ⟨h1, h2, -⟩ := compact_inv (srtS l).toArray (fun i j hij hj => by
    have hj' : j < (srtS l).length := by simpa using hj
    rw [List.pairwise_iff_getElem] at hs
    have := hs i j (by omega) hj' hij
    simpa [getElem!_pos, hj', show i < (srtS l).length by omega] using this) (srtS l).length (by simp)
  refine ⟨h1, fun x => ?_⟩
  show x ∈ Lib.compactUpTo _ _ ↔ _
  rw [h2, ← srtS_mem x l, List.mem_iff_getElem]
  constructor
  · rintro ⟨j, hj, e⟩
    exact ⟨j, hj, by simpa [getElem!_pos, hj] using e⟩
  · rintro ⟨j, hj, e⟩
    exact ⟨j, hj, by simpa [getElem!_pos, hj] using e⟩
theorem tracks_same (l : List Str) : cmpS1 (srtS l) = l.foldl putS [] :=
  (cmp_srt l).1.ext (puts_ss l [] (by simp [SS])) fun x => by rw [(cmp_srt l).2, puts_mem]; simp
/-! ### The reference's list -/
def ahd (s : Str) (l : List Str) : Nat := (l.takeWhile fun x => slt x s).length
theorem ahd_le (s : Str) : ∀ l, ahd s l ≤ l.length
  | [] => Nat.le_refl _
  | x :: l => by
    unfold ahd
    rw [List.takeWhile_cons]
    split
    · simp only [List.length_cons]; have := ahd_le s l; unfold ahd at this; omega
    · simp
theorem putS_eq (s : Str) : ∀ l, putS l s = if l[ahd s l]? = some s then l else l.take (ahd s l) ++ s :: l.drop (ahd s l)
  | [] => by simp [putS, ahd]
  | x :: l => by
    have ih := putS_eq s l
    unfold ahd at *
    rw [putS, List.takeWhile_cons]
    by_cases c : slt x s = true
    · rw [if_pos c, if_pos c, List.length_cons, List.getElem?_cons_succ, ih]
      split <;> simp
    · rw [if_neg c, if_neg c]
      by_cases d : x = s
      · subst d; simp
      · rw [if_neg d]; simp [d]
theorem put_loop (l : List Str) (s : Str) (hl : l.length ≤ 9223372036854775807) : F_ref6_PutText_L1 l s 0 = some (ahd s l : Int) := by
  unfold F_ref6_PutText_L1
  have key : ∀ (B : (Int → Option Int) → Int → Option Int) (_ : ∀ k (i : Int), B k i = bindO (letO (l.length : Int) fun x296 => letO (decide (i < x296)) fun x301 => iteB x301 (bindO (at' l i) fun x304 => letO (slt x304 s) fun x316 => some x316) (some false)) fun g293 => iteB g293 (letO (IntKind.i64.wrap (i + 1)) fun x319 => k x319) (some i))
      (d i : Nat) (fu : Nat), i + d = l.length → d < fu → loopN B fu (i : Int) = some ((i + ahd s (l.drop i) : Nat) : Int) := by
    intro B hB d
    induction d with
    | zero =>
      intro i fu h1 h2
      obtain ⟨f, rfl⟩ : ∃ f, fu = f + 1 := ⟨fu - 1, by omega⟩
      obtain rfl : i = l.length := by omega
      rw [loopN, hB]
      simp only [yH, xX, yQ, zV, List.drop_length]
      rfl
    | succ d ih =>
      intro i fu h1 h2
      obtain ⟨f, rfl⟩ : ∃ f, fu = f + 1 := ⟨fu - 1, by omega⟩
      have hi : i < l.length := by omega
      have hx : l[i]? = some l[i] := List.getElem?_eq_getElem hi
      rw [loopN, hB]
      simp only [yH]
      rw [xR hi, yU, at_ok hx, zV, zV, List.drop_eq_getElem_cons hi]
      cases c : slt l[i] s with
      | true =>
        rw [yU, wrap1 hi hl, ih (i + 1) f (by omega) (by omega)]
        unfold ahd
        rw [List.takeWhile_cons, c, if_pos rfl, List.length_cons]
        congr 1; omega
      | false =>
        rw [yQ]
        unfold ahd
        rw [List.takeWhile_cons, c, if_neg (by simp)]
        rfl
  unfold loopO
  refine (key _ (fun _ _ => rfl) l.length 0 FU (by omega) (FU_big hl)).trans ?_
  rw [List.drop_zero, Nat.zero_add]
theorem put_eq (l : List Str) (s : Str) (hl : l.length ≤ 1000000) : F_ref6_PutText l s = some (putS l s) := by
  have ha := ahd_le s l
  unfold F_ref6_PutText
  rw [put_loop l s (by omega), zV, putS_eq]
  simp only [yH]
  have sd : sub' l (ahd s l : Int) (l.length : Int) = some (l.drop (ahd s l)) := by
    unfold sub'
    rw [if_pos (by omega), Int.toNat_natCast, List.take_of_length_le (by rw [List.length_drop]; omega)]
  have ins : bindO (sub' l 0 (ahd s l : Int)) (fun x399 => bindO (app' 16 ([] : List Str) x399) fun x405 => bindO (sub' l (ahd s l : Int) (l.length : Int)) fun x412 => bindO (app' 16 x405 ([s] : List Str)) fun x422 => bindO (app' 16 x422 x412) fun x426 => some x426) = some (l.take (ahd s l) ++ s :: l.drop (ahd s l)) := by
    rw [sub_nat l ha, zV, app16 [] _ (by simp; omega), zV, sd, zV, app16 _ [s] (by simp; omega), zV, app16 _ _ (by simp; omega), zV]
    simp
  by_cases c : ahd s l < l.length
  · have hx : l[ahd s l]? = some l[ahd s l] := List.getElem?_eq_getElem c
    rw [xR c, yU, at_ok hx, zV, zV, hx]
    by_cases d : l[ahd s l] = s
    · rw [decide_eq_true d, yU, if_pos (by rw [d])]
    · rw [decide_eq_false d, yQ, if_neg (by simpa using d)]
      exact ins
  · have e : ahd s l = l.length := by omega
    rw [decide_eq_false (by omega), yQ, zV, yQ, if_neg (by rw [List.getElem?_eq_none (by omega)]; simp)]
    exact ins
theorem named_R : ∀ (n : Nat) (c : Cond) (l : List Str), dN c ≤ n → okC c → l.length + 2 * cN c ≤ 1000000 → F_ref6_named_R n l c = some ((nmsC c).foldl putS l)
  | 0, c, _, h, _, _ => by have := dN_pos c; omega
  | n + 1, c, l, h, ok, hc => by
    have hlen := ((okC_eq c).1 ok).2.1
    have hcc := cN_eq c
    have hd := dN_eq c
    show F_ref6_named_B (F_ref6_named_R n) l c = _
    have hq : ∃ q, ((nm1 c).foldl putS l) = q := ⟨_, rfl⟩
    obtain ⟨q, hq⟩ := hq
    have hql : q.length ≤ l.length + 2 := by rw [← hq]; have := puts_len (nm1 c) l; have := nm1_len c; omega
    have head : (bindO (bindO (letO (decide (c.Kind = 3)) fun x50 => bindO (iteB x50 (some true) (letO (decide (c.Kind = 4)) fun x56 => some x56)) fun j52 => iteB j52 (some true) (letO (decide (c.Kind = 5)) fun x59 => some x59)) fun g47 => iteB g47 (bindO (F_ref6_PutText l c.Name) fun x62 => some x62) (some l)) fun g32 =>
        bindO (letO (decide (c.Kind = 4)) fun x84 => iteB x84 (bindO (F_ref6_PutText g32 c.Other) fun x87 => some x87) (some g32)) fun g79 => (some g79 : Option (List Str))) = some q := by
      rw [← hq]
      unfold nm1
      simp only [yH]
      by_cases h3 : c.Kind = 3
      · simp only [h3, decide_true, yU, zV, true_or, if_pos]
        rw [put_eq l _ (by omega), zV, zV]
        simp only [show ¬ ((3 : Int) = 4) by decide, decide_false, yQ, zV, List.foldl_cons, List.foldl_nil]
      · by_cases h4 : c.Kind = 4
        · simp only [h4, decide_true, yU, zV, show ¬ ((4 : Int) = 3) by decide, show ¬ ((4 : Int) = 5) by decide, decide_false, yQ, or_self, if_false, if_true]
          rw [put_eq l _ (by omega), zV, zV]
          have := putS_len c.Name l
          rw [put_eq _ _ (by omega), zV, zV]
          rfl
        · by_cases h5 : c.Kind = 5
          · simp only [h5, decide_true, yU, zV, show ¬ ((5 : Int) = 3) by decide, show ¬ ((5 : Int) = 4) by decide, decide_false, yQ, or_true, if_true]
            rw [put_eq l _ (by omega), zV, zV]
            rfl
          · simp only [h3, h4, h5, decide_false, yQ, zV, or_self, if_false]
            rfl
    have tail : F_ref6_named_B_L1 (F_ref6_named_R n) c (q, 0) = some ((nmsCs c.Kids).foldl putS q) := by
      unfold F_ref6_named_B_L1
      have key : ∀ (B : (List Str × Int → Option (List Str)) → List Str × Int → Option (List Str)) (_ : ∀ k (s : List Str) (i : Int), B k (s, i) = letO (c.Kids.length : Int) fun x391 => letO (decide (i < x391)) fun x396 => iteB x396 (bindO (at' c.Kids i) fun x421 => bindO (F_ref6_named_R n s x421) fun x436 => letO (IntKind.i64.wrap (i + 1)) fun x442 => k (x436, x442)) (some s))
          (d i : Nat) (s : List Str) (fu : Nat), i + d = c.Kids.length → d < fu → s.length + 2 * cNs (c.Kids.drop i) ≤ 1000000 → loopN B fu (s, (i : Int)) = some ((nmsCs (c.Kids.drop i)).foldl putS s) := by
        intro B hB d
        induction d with
        | zero =>
          intro i s fu h1 h2 h3
          obtain ⟨f, rfl⟩ : ∃ f, fu = f + 1 := ⟨fu - 1, by omega⟩
          obtain rfl : i = c.Kids.length := by omega
          rw [loopN, hB]
          simp only [yH, xX, yQ, List.drop_length, nmsCs, List.foldl_nil]
        | succ d ih =>
          intro i s fu h1 h2 h3
          obtain ⟨f, rfl⟩ : ∃ f, fu = f + 1 := ⟨fu - 1, by omega⟩
          have hi : i < c.Kids.length := by omega
          have hx : c.Kids[i]? = some c.Kids[i] := List.getElem?_eq_getElem hi
          obtain ⟨k1, k2, k3⟩ := kid_ok ok hx
          have hdr := List.drop_eq_getElem_cons hi
          rw [hdr, cNs] at h3
          have hl := nmsC_len c.Kids[i]
          have hp := puts_len (nmsC c.Kids[i]) s
          rw [loopN, hB]
          simp only [yH]
          rw [xR hi, yU, at_ok hx, zV, named_R n _ s (by omega) k1 (by omega), zV, wrap1 hi hlen, ih (i + 1) _ f (by omega) (by omega) (by omega), hdr, nmsCs, List.foldl_append]
      unfold loopO
      refine (key _ (fun _ _ _ => rfl) c.Kids.length 0 q FU (by omega) (FU_big hlen) (by rw [List.drop_zero]; omega)).trans ?_
      rw [List.drop_zero]
    have e : F_ref6_named_B (F_ref6_named_R n) l c = bindO (bindO (bindO (letO (decide (c.Kind = 3)) fun x50 => bindO (iteB x50 (some true) (letO (decide (c.Kind = 4)) fun x56 => some x56)) fun j52 => iteB j52 (some true) (letO (decide (c.Kind = 5)) fun x59 => some x59)) fun g47 => iteB g47 (bindO (F_ref6_PutText l c.Name) fun x62 => some x62) (some l)) fun g32 =>
        bindO (letO (decide (c.Kind = 4)) fun x84 => iteB x84 (bindO (F_ref6_PutText g32 c.Other) fun x87 => some x87) (some g32)) fun g79 => (some g79 : Option (List Str))) fun g79 => bindO (F_ref6_named_B_L1 (F_ref6_named_R n) c (g79, 0)) fun g233 => some g233 := by
      unfold F_ref6_named_B
      generalize (bindO (letO (decide (c.Kind = 3)) fun x50 => bindO (iteB x50 (some true) (letO (decide (c.Kind = 4)) fun x56 => some x56)) fun j52 => iteB j52 (some true) (letO (decide (c.Kind = 5)) fun x59 => some x59)) fun g47 => iteB g47 (bindO (F_ref6_PutText l c.Name) fun x62 => some x62) (some l)) = A
      cases A with
      | none => rfl
      | some a =>
        rw [zV, zV]
        generalize (letO (decide (c.Kind = 4)) fun x84 => iteB x84 (bindO (F_ref6_PutText a c.Other) fun x87 => some x87) (some a)) = B
        cases B with
        | none => rfl
        | some b => rfl
    rw [e, head, zV, tail, zV, ← hq, nmsC_eq, List.foldl_append]
theorem named_eq2 {c : Cond} (g : Gt c) (l : List Str) (hl : l.length ≤ 100000) : F_ref6_named l c = some ((nmsC c).foldl putS l) := by
  have := g.d; have := g.n
  unfold F_ref6_named
  exact named_R FU c l (Nat.le_of_lt (FU_gt (by omega))) g.ok (by omega)
theorem rTracks_eq {r : Rules} (g : Gr' r) : F_ref6_TracksOf r = some ((allNm r).foldl putS []) := by
  have hm := g.m; have hl := g.l
  have e1 : ∃ q, F_ref6_TracksOf_L1 r ([], 0) = some q ∧ q = (r.Moves.flatMap fun m => nmsC m.When).foldl putS [] := by
    unfold F_ref6_TracksOf_L1
    refine loopO_inv (fun (i : Nat) (s : List Str) => (s, (i : Int))) r.Moves (fun i s => s = ((r.Moves.take i).flatMap fun m => nmsC m.When).foldl putS []) (fun s => s = (r.Moves.flatMap fun m => nmsC m.When).foldl putS []) (by omega) ?_ ?_ [] (by simp)
    · intro k i s x hx hi hI
      have gx := (g.mg x (List.mem_of_getElem? hx)).1
      have h1 := flat_len (fun m : MoveT => nmsC m.When) 400 (r.Moves.take i) fun y hy => by have := nmsC_len y.When; have := (g.mg y (List.mem_of_mem_take hy)).1.n; omega
      have h4 : (r.Moves.take i).length ≤ 60 := by simp; omega
      have h5 := puts_len ((r.Moves.take i).flatMap fun m => nmsC m.When) []
      simp only [List.length_nil] at h5
      refine ⟨(nmsC x.When).foldl putS s, by rw [hI, take_snoc hx]; simp, ?_⟩
      simp only [yH]
      rw [xR hi, yU, at_ok hx, zV, named_eq2 gx s (by rw [hI]; omega), zV, wrap1 hi (by omega)]
    · intro k s hI
      simp only [yH]
      rw [xX, yQ]
      exact ⟨_, rfl, by rw [hI, List.take_length]⟩
  obtain ⟨q1, h1, h2⟩ := e1
  have e2 : ∃ q, F_ref6_TracksOf_L2 r (q1, 0) = some q ∧ q = (allNm r).foldl putS [] := by
    unfold F_ref6_TracksOf_L2
    refine loopO_inv (fun (i : Nat) (s : List Str) => (s, (i : Int))) r.Rules (fun i s => s = ((r.Moves.flatMap fun m => nmsC m.When) ++ (r.Rules.take i).flatMap fun m => nmsC m.When).foldl putS []) (fun s => s = (allNm r).foldl putS []) (by omega) ?_ ?_ q1 (by rw [h2]; simp)
    · intro k i s x hx hi hI
      have gx := (g.lg x (List.mem_of_getElem? hx)).1
      have h0 := flat_len (fun m : MoveT => nmsC m.When) 400 r.Moves fun y hy => by have := nmsC_len y.When; have := (g.mg y hy).1.n; omega
      have h1 := flat_len (fun m : Rule => nmsC m.When) 400 (r.Rules.take i) fun y hy => by have := nmsC_len y.When; have := (g.lg y (List.mem_of_mem_take hy)).1.n; omega
      have h4 : (r.Rules.take i).length ≤ 60 := by simp; omega
      have h5 := puts_len ((r.Moves.flatMap fun m => nmsC m.When) ++ (r.Rules.take i).flatMap fun m => nmsC m.When) []
      rw [List.length_append] at h5
      simp only [List.length_nil] at h5
      refine ⟨(nmsC x.When).foldl putS s, by rw [hI, take_snoc hx]; simp, ?_⟩
      simp only [yH]
      rw [xR hi, yU, at_ok hx, zV, named_eq2 gx s (by rw [hI]; omega), zV, wrap1 hi (by omega)]
    · intro k s hI
      simp only [yH]
      rw [xX, yQ]
      exact ⟨_, rfl, by rw [hI, List.take_length]; rfl⟩
  obtain ⟨q2, h3, h4⟩ := e2
  unfold F_ref6_TracksOf
  rw [h1, zV, h3, zV, h4]
end Go.Lf
namespace Go.Lf
open Go.OB
def dpK (k fr : Int) (nm : Str) (f : Str → Int) (m : Int) : Int :=
  if k = 5 then fr else if k = 6 ∨ k = 14 then -1 else if k = 7 then f nm else if m < 0 then -1 else if k = 8 ∨ k = 9 ∨ k = 10 then m
  else if k = 11 ∨ k = 12 ∨ k = 13 then IntKind.i64.wrap (IntKind.i64.wrap (m + fr) - 1) else if k = 15 then IntKind.i64.wrap (m + 1) else 1
mutual
def dpC (f : Str → Int) : Cond → Int
  | ⟨k, nm, _, _, _, fr, ks⟩ => dpK k fr nm f (dpCs f ks)
def dpCs (f : Str → Int) : List Cond → Int
  | [] => 0
  | c :: l => if dpC f c < 0 then -1 else if dpCs f l < 0 then -1 else max (dpC f c) (dpCs f l)
end
theorem dpC_eq (f : Str → Int) (c : Cond) : dpC f c = dpK c.Kind c.Frames c.Name f (dpCs f c.Kids) := by cases c; rfl
theorem dp_loop {β : Type} (B : (Int × Int → Option β) → Int × Int → Option β) (ks : List Cond) (f : Str → Int) (no : Option β) (yes : Int → Option β) (hk : ks.length ≤ 9223372036854775807)
    (h1 : ∀ k g i x, ks[i]? = some x → i < ks.length → B k (g, (i : Int)) = if dpC f x < 0 then no else k (max g (dpC f x), ((i + 1 : Nat) : Int))) (h2 : ∀ k g, B k (g, (ks.length : Int)) = yes g) :
    ∀ (d i : Nat) (g : Int) (fu : Nat), i + d = ks.length → d < fu → 0 ≤ g → loopN B fu (g, (i : Int)) = if dpCs f (ks.drop i) < 0 then no else yes (max g (dpCs f (ks.drop i)))
  | 0, i, g, fu, hi, hf, hg => by
    obtain ⟨m, rfl⟩ : ∃ m, fu = m + 1 := ⟨fu - 1, by omega⟩
    obtain rfl : i = ks.length := by omega
    rw [loopN, h2, List.drop_length, dpCs, if_neg (by decide)]
    congr 1; omega
  | d + 1, i, g, fu, hi, hf, hg => by
    obtain ⟨m, rfl⟩ : ∃ m, fu = m + 1 := ⟨fu - 1, by omega⟩
    have hil : i < ks.length := by omega
    rw [loopN, h1 _ g i ks[i] (List.getElem?_eq_getElem hil) hil, List.drop_eq_getElem_cons hil, dpCs]
    by_cases c : dpC f ks[i] < 0
    · rw [if_pos c, if_pos c, if_pos (by decide)]
    · rw [if_neg c, if_neg c, dp_loop B ks f no yes hk h1 h2 d (i + 1) _ m (by omega) (by omega) (by omega)]
      by_cases e : dpCs f (ks.drop (i + 1)) < 0
      · rw [if_pos e, if_pos e, if_pos (by decide)]
      · rw [if_neg e, if_neg e, if_neg (by omega)]
        congr 1; omega
theorem dpCs_nil {f : Str → Int} {l : List Cond} (h : l.length = 0) : dpCs f l = 0 := by
  rw [List.eq_nil_of_length_eq_zero h]; rfl
theorem depth_R (m : List (Str × Int)) : ∀ (n : Nat) (c : Cond), dN c ≤ n → Gt c → F_event_depth_R n c m = some (dpC (fun s => mget m s 0) c)
  | 0, c, h, _ => by have := dN_pos c; omega
  | n + 1, c, h, g => by
    have hlen := g.kids
    have gk := g.gk
    have gs := g.self
    show F_event_depth_B (F_event_depth_R n) c m = _
    unfold F_event_depth_B
    simp only [yH, joinO_eq]
    unfold F_event_depth_B_L1 loopO
    refine (dp_loop _ c.Kids (fun s => mget m s 0) (some (-1)) (fun w => some (if c.Kind = 5 then c.Frames else if c.Kind = 6 ∨ c.Kind = 14 then -1 else if c.Kind = 7 then mget m c.Name 0 else if c.Kind = 8 ∨ c.Kind = 9 ∨ c.Kind = 10 then w
        else if c.Kind = 11 ∨ c.Kind = 12 ∨ c.Kind = 13 then IntKind.i64.wrap (IntKind.i64.wrap (w + c.Frames) - 1) else if c.Kind = 15 then IntKind.i64.wrap (w + 1) else 1)) (by omega) ?_ ?_ c.Kids.length 0 0 FU (by omega) (FU_big (by omega)) (by omega)).trans ?_
    · intro k w i x hx hi
      obtain ⟨k1, k2, k3⟩ := kid_ok g.ok hx
      simp only [yH]
      rw [xR hi, yU, at_ok hx, zV, depth_R m n x (by omega) (g.kid (List.mem_of_getElem? hx)), zV, wrap1 hi (by omega), iteB_dec]
    · intro k w
      simp only [yH, xX, yQ, iteB_or, zV]
      simp only [iteB_ite, Bool.or_eq_true, decide_eq_true_eq]
      repeat' split
      all_goals first | rfl | (exfalso; omega)
    · rw [List.drop_zero, dpC_eq]
      by_cases e : dpCs (fun s => mget m s 0) c.Kids < 0
      · rw [if_pos e]
        have hk : 8 ≤ c.Kind := by
          rcases Int.lt_or_le c.Kind 8 with q | q
          · rw [dpCs_nil (gk.z (by omega))] at e; omega
          · exact q
        unfold dpK
        rw [if_neg (by omega)]
        by_cases z : c.Kind = 14
        · rw [if_pos (.inr z)]
        · rw [if_neg (by omega), if_neg (by omega), if_pos e]
      · rw [if_neg e, show max (0 : Int) (dpCs (fun s => mget m s 0) c.Kids) = dpCs (fun s => mget m s 0) c.Kids by omega]
        unfold dpK
        simp only [if_neg e]
theorem ruleOf_ix (s : Str) (r : Rules) (hl : r.Rules.length ≤ 9223372036854775807) : ∃ n, F_ref6_RuleOf r s = some n ∧ ((n = -1 ∧ ∀ (j : Nat) x, r.Rules[j]? = some x → decide (x.Name = s) = false) ∨ ∃ j : Nat, n = ((0 + j : Nat) : Int) ∧ (∃ x, r.Rules[j]? = some x ∧ decide (x.Name = s) = true) ∧ ∀ (m : Nat) y, m < j → r.Rules[m]? = some y → decide (y.Name = s) = false) := by
  unfold F_ref6_RuleOf
  simp only [joinO_eq]
  unfold F_ref6_RuleOf_L1
  obtain ⟨n, h1, h2⟩ := find_ix (fun y : Rule => decide (y.Name = s)) r.Rules 0
  refine ⟨n, ?_, h2⟩
  rw [wE r.Rules (fun i x => if decide (x.Name = s) = true then some (some (i : Int)) else none) (some (-1)) hl ?_ ?_, h1]
  · intro k i x hx hi
    simp only [yH]
    rw [xR hi, yU, at_ok hx, zV, wrap1 hi hl]
    cases decide (x.Name = s) <;> rfl
  · intro k
    simp only [yH]
    rw [xX, yQ]
def look (r : Rules) (ds : List Int) (s : Str) : Int := mget ((r.Rules.map Rule.Name).zip ds) s 0
theorem look_ix {r : Rules} {ds : List Int} {s : Str} {i : Nat} (hl : r.Rules.length ≤ 9223372036854775807) (hd : ds.length = i) (hi : i ≤ r.Rules.length) (hn : nmd (r.Rules.take i) s = true) : bindO (F_ref6_RuleOf r s) (fun x87 => bindO (at' ds x87) fun x91 => some x91) = some (look r ds s) := by
  obtain ⟨n, h1, h2⟩ := ruleOf_ix s r hl
  have ht := ix_take h2 i
  have hn' : (r.Rules.take i).any (fun y => decide (y.Name = s)) = true := hn
  rw [hn', decide_eq_true_eq] at ht
  rcases h2 with ⟨rfl, _⟩ | ⟨j, rfl, ⟨x, hx, hxs⟩, hf⟩
  · omega
  · have hj : j < ds.length := by omega
    rw [h1, Nat.zero_add, zV, at_ok (List.getElem?_eq_getElem hj), zV]
    congr 1
    unfold look mget
    have key : ∀ (l : List Rule) (ds : List Int) (j : Nat) (hj : j < ds.length), (∃ x, l[j]? = some x ∧ decide (x.Name = s) = true) → (∀ (m : Nat) y, m < j → l[m]? = some y → decide (y.Name = s) = false) →
        ((l.map Rule.Name).zip ds).find? (fun p => decide (p.1 = s)) = some (s, ds[j]) := by
      intro l
      induction l with
      | nil => rintro ds j hj ⟨x, h, _⟩; simp at h
      | cons a l ih =>
        intro ds j hj h1 h2
        cases ds with
        | nil => simp at hj
        | cons d ds =>
          rw [List.map_cons, List.zip_cons_cons, List.find?_cons]
          cases j with
          | zero =>
            obtain ⟨x, h3, h4⟩ := h1
            obtain rfl : a = x := by simpa using h3
            have h5 := of_decide_eq_true h4
            simp [h5]
          | succ j =>
            have h3 := h2 0 a (by omega) rfl
            rw [show decide (a.Name = s) = false from h3]
            simp only []
            rw [ih ds j (by simpa using hj) (by simpa using h1) fun m y hm hy => h2 (m + 1) y (by omega) (by simpa using hy)]
            simp
    rw [key r.Rules ds j hj ⟨x, hx, hxs⟩ hf]
theorem anyC_kid {p : Cond → Bool} {c x : Cond} (h : anyC p c = false) (hx : x ∈ c.Kids) : anyC p x = false := by
  rw [anyC_eq, Bool.or_eq_false_iff] at h
  have key : ∀ l : List Cond, anyCs p l = false → x ∈ l → anyC p x = false := by
    intro l
    induction l with
    | nil => intro _ h; cases h
    | cons a l ih =>
      intro h hx
      rw [anyCs, Bool.or_eq_false_iff] at h
      rcases List.mem_cons.1 hx with rfl | q
      · exact h.1
      · exact ih h.2 q
  exact key _ h.2 hx
theorem rdepth_R (r : Rules) (i : Nat) (ds : List Int) (hl : r.Rules.length ≤ 60) (hd : ds.length = i) (hi : i ≤ r.Rules.length) : ∀ (n : Nat) (c : Cond), dN c ≤ n → Gt c → anyC (pRl r i) c = false → F_ref6_depth_R n r c ds = some (dpC (look r ds) c)
  | 0, c, h, _, _ => by have := dN_pos c; omega
  | n + 1, c, h, g, ha => by
    have hlen := g.kids
    have gk := g.gk
    have gs := g.self
    have hp : pRl r i c = false := by rw [anyC_eq, Bool.or_eq_false_iff] at ha; exact ha.1
    show F_ref6_depth_B (F_ref6_depth_R n) r c ds = _
    unfold F_ref6_depth_B
    simp only [yH, joinO_eq, iteB_or, zV]
    simp only [iteB_ite, Bool.or_eq_true, decide_eq_true_eq]
    rw [dpC_eq]
    unfold dpK
    by_cases h5 : c.Kind = 5
    · rw [if_pos h5, if_pos h5]
    rw [if_neg h5, if_neg h5]
    by_cases h6 : c.Kind = 6 ∨ c.Kind = 14
    · rw [if_pos h6, if_pos h6]
    rw [if_neg h6, if_neg h6]
    by_cases h7 : c.Kind = 7
    · rw [if_pos h7, if_pos h7]
      refine look_ix (by omega) hd hi ?_
      unfold pRl at hp
      simp only [h7, decide_true, Bool.true_and, Bool.or_eq_false_iff, Bool.not_eq_eq_eq_not, Bool.not_false] at hp
      exact hp.2
    rw [if_neg h7, if_neg h7]
    by_cases h0 : (c.Kids.length : Int) = 0
    · have hk : c.Kind ≤ 4 := by
        rcases Int.lt_or_le 7 c.Kind with q | q
        · exfalso
          have := gk.o; have := gk.t; have := gk.g; have := gs.k1
          omega
        · omega
      rw [if_pos h0, dpCs_nil (by omega), if_neg (by decide), if_neg (by omega), if_neg (by omega), if_neg (by omega)]
    rw [if_neg h0]
    unfold F_ref6_depth_B_L1 loopO
    have hk8 : 8 ≤ c.Kind := by
      rcases Int.lt_or_le c.Kind 8 with q | q
      · exact absurd (gk.z (by omega)) (by omega)
      · exact q
    refine (dp_loop _ c.Kids (look r ds) (some (-1)) (fun w => some (if c.Kind = 8 ∨ c.Kind = 9 ∨ c.Kind = 10 then w else if c.Kind = 11 ∨ c.Kind = 12 ∨ c.Kind = 13 then IntKind.i64.wrap (IntKind.i64.wrap (w + c.Frames) - 1) else if c.Kind = 15 then IntKind.i64.wrap (w + 1) else 1)) (by omega) ?_ ?_ c.Kids.length 0 0 FU (by omega) (FU_big (by omega)) (by omega)).trans ?_
    · intro k w j x hx hj
      obtain ⟨k1, k2, k3⟩ := kid_ok g.ok hx
      have hm := List.mem_of_getElem? hx
      simp only [yH]
      rw [xR hj, yU, at_ok hx, zV, rdepth_R r i ds hl hd hi n x (by omega) (g.kid hm) (anyC_kid ha hm), zV, wrap1 hj (by omega), iteB_dec]
    · intro k w
      simp only [yH, xX, yQ]
      have := gs.k1
      repeat' split
      all_goals first | rfl | (exfalso; omega)
    · rw [List.drop_zero]
      by_cases e : dpCs (look r ds) c.Kids < 0
      · rw [if_pos e, if_pos e]
      · rw [if_neg e, if_neg e, show max (0 : Int) (dpCs (look r ds) c.Kids) = dpCs (look r ds) c.Kids by omega]
end Go.Lf
namespace Go.Lf
open Go.OB
theorem chk_rl {r : Rules} (h : chk r = some 0) : ∀ (i : Nat) x, r.Rules[i]? = some x → nmd (r.Rules.take i) x.Name = false ∧ anyC (pRl r i) x.When = false := by
  unfold chk at h
  split at h
  · exact absurd (Option.some.inj h) (by decide)
  · obtain ⟨h1, h2⟩ := findO_bind (phE r.Phases) _ _ _ h
    obtain ⟨h3, h4⟩ := findO_bind (fun _ => mvE r) _ _ _ h1
    obtain ⟨h5, h6⟩ := findO_bind (rlE r) _ _ _ h3
    intro i x hx
    have := h6 i x hx
    rw [Nat.zero_add] at this
    unfold rlE at this
    split at this
    · split at this
      · exact absurd this (by decide)
      · rename_i b
        split at this
        · split at this
          · exact absurd this (by decide)
          · rename_i d; exact ⟨by simpa using b, by simpa using d⟩
        · rename_i d; exact absurd this d
    · exact absurd this (by decide)
def dsN (r : Rules) : Nat → List Int
  | 0 => []
  | i + 1 => match r.Rules[i]? with
    | some x => dsN r i ++ [dpC (look r (dsN r i)) x.When]
    | none => dsN r i
theorem dsN_len (r : Rules) : ∀ i, i ≤ r.Rules.length → (dsN r i).length = i
  | 0, _ => rfl
  | i + 1, h => by
    have hx : r.Rules[i]? = some r.Rules[i] := List.getElem?_eq_getElem (by omega)
    rw [dsN, hx]
    simp only [List.length_append, List.length_cons, List.length_nil]
    rw [dsN_len r i (by omega)]
theorem zip_any (s : Str) : ∀ (l : List Rule) (ds : List Int), ((l.map Rule.Name).zip ds).any (fun p => decide (p.1 = s)) = nmd (l.take ds.length) s
  | [], ds => by simp [nmd]
  | a :: l, [] => by simp [nmd]
  | a :: l, d :: ds => by
    have ih := zip_any s l ds
    unfold nmd at *
    rw [List.map_cons, List.zip_cons_cons, List.any_cons, ih, List.length_cons, List.take_succ_cons, List.any_cons]
theorem zip_snoc {x : Rule} (d : Int) : ∀ (l : List Rule) (ds : List Int), l[ds.length]? = some x → (l.map Rule.Name).zip (ds ++ [d]) = (l.map Rule.Name).zip ds ++ [(x.Name, d)]
  | [], ds, h => by simp at h
  | a :: l, [], h => by
    obtain rfl : a = x := by simpa using h
    cases l <;> simp
  | a :: l, e :: ds, h => by
    rw [List.cons_append, List.map_cons, List.zip_cons_cons, List.zip_cons_cons, zip_snoc d l ds (by simpa using h), List.cons_append]
theorem mget_snoc {k : Str} {v : Int} : ∀ {l : List (Str × Int)}, l.any (fun p => decide (p.1 = k)) = false → mget (l ++ [(k, v)]) k 0 = v := by
  intro l h
  have e : (l ++ [(k, v)]).find? (fun p => decide (p.1 = k)) = some (k, v) := by
    rw [List.find?_append, List.find?_eq_none.2 (fun p hp => by rw [List.any_eq_false] at h; exact h p hp)]
    simp
  unfold mget
  rw [e]
theorem depth_eq {c : Cond} (g : Gt c) (m : List (Str × Int)) : F_event_depth c m = some (dpC (fun s => mget m s 0) c) := depth_R m FU c (Nat.le_of_lt (FU_gt (by have := g.d; omega))) g
theorem rdepth_eq {r : Rules} {i : Nat} {ds : List Int} (hl : r.Rules.length ≤ 60) (hd : ds.length = i) (hi : i ≤ r.Rules.length) {c : Cond} (g : Gt c) (ha : anyC (pRl r i) c = false) : F_ref6_depth r c ds = some (dpC (look r ds) c) := rdepth_R r i ds hl hd hi FU c (Nat.le_of_lt (FU_gt (by have := g.d; omega))) g ha
theorem Depths_eq {r : Rules} (ok : okR r) (h : chk r = some 0) : F_event_Depths r = some (dsN r r.Rules.length, 0) ∧ F_ref6_Depths r = some (dsN r r.Rules.length, 0) := by
  have g := chk_good ok h
  have hl := g.l
  have hr := chk_rl h
  constructor
  · unfold F_event_Depths
    rw [Check_eq r ok, h, zV]
    simp only [yH]
    rw [decide_eq_false (by simp), yQ]
    have key : ∃ q, F_event_Depths_L1 r (r.Rules.length : Int) ([], 0, []) = some q ∧ q = dsN r r.Rules.length := by
      unfold F_event_Depths_L1
      refine loopO_inv (fun (i : Nat) (s : List Int × List (Str × Int)) => (s.1, (i : Int), s.2)) r.Rules (fun i s => s = (dsN r i, (r.Rules.map Rule.Name).zip (dsN r i))) (fun s => s = dsN r r.Rules.length) (by omega) ?_ ?_ ([], []) (by simp [dsN])
      · rintro k i s x hx hi rfl
        have hd := dsN_len r i (by omega)
        have gx := (g.lg x (List.mem_of_getElem? hx)).1
        obtain ⟨n1, n2⟩ := hr i x hx
        have za : ((r.Rules.map Rule.Name).zip (dsN r i)).any (fun p => decide (p.1 = x.Name)) = false := by rw [zip_any, hd]; exact n1
        have e : dsN r (i + 1) = dsN r i ++ [dpC (look r (dsN r i)) x.When] := by rw [dsN, hx]
        refine ⟨_, rfl, ?_⟩
        simp only [yH]
        rw [xR hi, yU, at_ok hx, zV, depth_eq gx, zV, mset_new _ _ za, mget_snoc za, app8 _ _ (by rw [hd]; simp; omega), zV, wrap1 hi (by omega), e, zip_snoc _ _ _ (by rw [hd]; exact hx)]
        rfl
      · rintro k s rfl
        simp only [yH]
        rw [xX, yQ]
        exact ⟨_, rfl, rfl⟩
    obtain ⟨q, h1, rfl⟩ := key
    rw [h1, zV]
  · unfold F_ref6_Depths
    rw [rCheck_eq r ok, h, zV]
    simp only [yH]
    rw [decide_eq_false (by simp), yQ]
    have key : ∃ q, F_ref6_Depths_L1 r ([], 0) = some q ∧ q = dsN r r.Rules.length := by
      unfold F_ref6_Depths_L1
      refine loopO_inv (fun (i : Nat) (s : List Int) => (s, (i : Int))) r.Rules (fun i s => s = dsN r i) (fun s => s = dsN r r.Rules.length) (by omega) ?_ ?_ [] rfl
      · rintro k i s x hx hi rfl
        have hd := dsN_len r i (by omega)
        have gx := (g.lg x (List.mem_of_getElem? hx)).1
        obtain ⟨n1, n2⟩ := hr i x hx
        have e : dsN r (i + 1) = dsN r i ++ [dpC (look r (dsN r i)) x.When] := by rw [dsN, hx]
        refine ⟨_, rfl, ?_⟩
        simp only [yH]
        rw [xR hi, yU, at_ok hx, zV, rdepth_eq hl hd (by omega) gx n2, zV, app8 _ _ (by rw [hd]; simp; omega), zV, wrap1 hi (by omega), e]
      · rintro k s rfl
        simp only [yH]
        rw [xX, yQ]
        exact ⟨_, rfl, rfl⟩
    obtain ⟨q, h1, rfl⟩ := key
    rw [h1, zV]
theorem nm1_short {c : Cond} (g : Gt c) : ∀ s ∈ nm1 c, s.length ≤ 30 := by
  have h1 := g.self.nm; have h2 := g.self.ot
  intro s hs
  unfold nm1 at hs
  split at hs
  · obtain rfl := List.mem_singleton.1 hs; exact h1
  · split at hs
    · simp only [List.mem_cons, List.not_mem_nil, or_false] at hs
      rcases hs with rfl | rfl
      · exact h1
      · exact h2
    · cases hs
theorem nmsC_short : ∀ (n : Nat) (c : Cond), dN c ≤ n → Gt c → ∀ s ∈ nmsC c, s.length ≤ 30
  | 0, c, h, _ => by have := dN_pos c; omega
  | n + 1, c, h, g => by
    intro s hs
    rw [nmsC_eq, List.mem_append] at hs
    rcases hs with hs | hs
    · exact nm1_short g s hs
    · have key : ∀ l : List Cond, s ∈ nmsCs l → ∃ x ∈ l, s ∈ nmsC x := by
        intro l
        induction l with
        | nil => intro h; simp [nmsCs] at h
        | cons a l ih =>
          intro h
          rw [nmsCs, List.mem_append] at h
          rcases h with h | h
          · exact ⟨a, List.mem_cons_self, h⟩
          · obtain ⟨x, h1, h2⟩ := ih h; exact ⟨x, List.mem_cons_of_mem _ h1, h2⟩
      obtain ⟨x, hx, hs⟩ := key _ hs
      obtain ⟨j, hj⟩ := List.getElem?_of_mem hx
      have := (kid_ok g.ok hj).2.1
      exact nmsC_short n x (by omega) (g.kid hx) s hs
theorem allNm_short {r : Rules} (g : Gr' r) : ∀ s ∈ allNm r, s.length ≤ 30 := by
  intro s hs
  unfold allNm at hs
  rw [List.mem_append, List.mem_flatMap, List.mem_flatMap] at hs
  rcases hs with ⟨x, hx, hs⟩ | ⟨x, hx, hs⟩
  · have gx := (g.mg x hx).1; exact nmsC_short 20 _ gx.d gx s hs
  · have gx := (g.lg x hx).1; exact nmsC_short 20 _ gx.d gx s hs
def trkN (r : Rules) : List Str := (allNm r).foldl putS []
theorem trkN_len {r : Rules} (g : Gr' r) : (trkN r).length ≤ 48000 := by
  have := puts_len (allNm r) []
  have := allNm_len g
  simp only [List.length_nil] at *
  unfold trkN; omega
theorem trkN_short {r : Rules} (g : Gr' r) : ∀ s ∈ trkN r, s.length ≤ 30 := by
  intro s hs
  unfold trkN at hs
  rw [puts_mem] at hs
  exact allNm_short g s (hs.resolve_left (by simp))
theorem texts_ex (l : List Str) (e : Int) (h1 : l.length ≤ 50000) (h2 : ∀ s ∈ l, s.length ≤ 30) : ∃ t, F_law6_texts l e = some t := by
  unfold F_law6_texts
  obtain ⟨q, h3, h4⟩ := ink_Texts (Orangeboxref0Ink.mk []) l (b := 0) h2 (by simp) (by omega)
  obtain ⟨q2, h5, h6⟩ := ink_Int q e h4 (by omega)
  rw [h3, zV]
  unfold F_ref0_Ink_Errno F_ref0_Ink_Told
  rw [h5]
  exact ⟨_, rfl⟩
theorem lists1_ex (l : List Int) (e : Int) (h1 : l.length ≤ 50000) : ∃ t, F_law6_lists [l] e = some t := by
  unfold F_law6_lists
  have key : ∃ q, F_ref0_Ink_Lists (Orangeboxref0Ink.mk []) [l] = some q ∧ q.out.length ≤ 10000000 := by
    unfold F_ref0_Ink_Lists
    simp only [yH]
    obtain ⟨p, h3, h4⟩ := ink_Int (Orangeboxref0Ink.mk []) (([l] : List (List Int)).length : Int) (b := 0) (by simp) (by omega)
    rw [h3, zV]
    unfold F_ref0_Ink_Lists_L1
    refine loopO_inv (fun (i : Nat) (s : List Int) => ((i : Int), s)) [l] (fun i s => s.length ≤ 22 + i * 5000000) (fun (r : Orangeboxref0Ink) => r.out.length ≤ 10000000) (by simp) ?_ ?_ _ (by simpa using h4)
    · intro kk i s x hx hi hI
      obtain rfl : i = 0 := by simpa using hi
      obtain rfl : l = x := by simpa using hx
      obtain ⟨r, h5, h6⟩ := ink_Ints (Orangeboxref0Ink.mk s) l (b := 22) (by simpa using hI) (by omega)
      refine ⟨r.out, by omega, ?_⟩
      simp only [yH]
      rw [xR hi, yU, at_ok hx, zV, h5, zV, wrap1 hi (by simp)]
    · intro kk s hI
      simp only [yH]
      rw [xX, yQ]
      exact ⟨_, rfl, by simpa using (Nat.le_trans hI (by simp) : s.length ≤ 10000000)⟩
  obtain ⟨q, h3, h4⟩ := key
  obtain ⟨q2, h5, h6⟩ := ink_Int q e h4 (by omega)
  rw [h3, zV]
  unfold F_ref0_Ink_Errno F_ref0_Ink_Told
  rw [h5]
  exact ⟨_, rfl⟩
theorem law_Check (c : Cond) (r : Rules) (oc : okC c) (ok : okR r) : F_law6_EventCheckMatchesSpec c r = some true := by
  obtain ⟨e, he⟩ := chk_some r
  by_cases z : e = 0
  · subst z
    have g := chk_good ok he
    have t1 : F_event_Tracks r = some (trkN r, 0) := by
      unfold F_event_Tracks
      rw [Check_eq r ok, he, zV]
      simp only [yH]
      rw [decide_eq_false (by simp), yQ, tracksIn_eq g, zV, tracks_same]; rfl
    have t2 : F_ref6_Tracks r = some (trkN r, 0) := by
      unfold F_ref6_Tracks
      rw [rCheck_eq r ok, he, zV]
      simp only [yH]
      rw [decide_eq_false (by simp), yQ, rTracks_eq g, zV]; rfl
    obtain ⟨d1, d2⟩ := Depths_eq ok he
    obtain ⟨t, ht⟩ := texts_ex (trkN r) 0 (by have := trkN_len g; omega) (trkN_short g)
    obtain ⟨u, hu⟩ := lists1_ex (dsN r r.Rules.length) 0 (by rw [dsN_len r _ (Nat.le_refl _)]; have := g.l; omega)
    unfold F_law6_EventCheckMatchesSpec
    simp only [CheckCond_eq c oc, rCheckCond_eq c oc, Check_eq r ok, rCheck_eq r ok, he, t1, t2, d1, d2, ht, hu, zV, yH, ne_eq, not_true_eq_false, decide_true, decide_false, yU, yQ, reads_true]
  · have t1 : F_event_Tracks r = some ([], e) := by
      unfold F_event_Tracks
      rw [Check_eq r ok, he, zV]
      simp only [yH]
      rw [decide_eq_true z, yU]
    have t2 : F_ref6_Tracks r = some ([], e) := by
      unfold F_ref6_Tracks
      rw [rCheck_eq r ok, he, zV]
      simp only [yH]
      rw [decide_eq_true z, yU]
    have d1 : F_event_Depths r = some ([], e) := by
      unfold F_event_Depths
      rw [Check_eq r ok, he, zV]
      simp only [yH]
      rw [decide_eq_true z, yU]
    have d2 : F_ref6_Depths r = some ([], e) := by
      unfold F_ref6_Depths
      rw [rCheck_eq r ok, he, zV]
      simp only [yH]
      rw [decide_eq_true z, yU]
    obtain ⟨t, ht⟩ := texts_ex [] e (by simp) (by simp)
    obtain ⟨u, hu⟩ := lists1_ex [] e (by simp)
    unfold F_law6_EventCheckMatchesSpec
    simp only [CheckCond_eq c oc, rCheckCond_eq c oc, Check_eq r ok, rCheck_eq r ok, he, t1, t2, d1, d2, ht, hu, zV, yH, ne_eq, not_true_eq_false, decide_true, decide_false, yU, yQ, reads_true]
def okCond (c : Cond) : Prop := okC c
theorem okCond_mk {a0 : Int} {a1 a2 : Str} {a3 a4 a5 : Int} {a6 : List Cond} (k0 : i64 a0) (k1 : okS a1) (k2 : okS a2) (k3 : i64 a3) (k4 : i64 a4) (k5 : i64 a5) (k6 : a6.length ≤ 9223372036854775807 ∧ ∀ x ∈ a6, okCond x) : okCond ⟨a0, a1, a2, a3, a4, a5, a6⟩ :=
  (okC_eq _).2 ⟨⟨k0, k1, k2, k3, k4, k5⟩, k6.1, (okCs_iff _).2 k6.2⟩
def okMoveT (x : MoveT) : Prop := okS x.From ∧ okS x.To ∧ okCond x.When
def okRule (x : Rule) : Prop := okS x.Name ∧ okCond x.When
def okRules (x : Rules) : Prop := okL (fun x => okS x) x.Phases ∧ okL (fun x => okMoveT x) x.Moves ∧ okL (fun x => okRule x) x.Rules
theorem law_Check2 (c : Cond) (r : Rules) (hc : okCond c) (hr : okRules r) : F_law6_EventCheckMatchesSpec c r = some true := law_Check c r hc hr
end Go.Lf
