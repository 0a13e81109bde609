/- Walks: what each function computes, for every argument; no condition but those that stand in the statements. -/
import Derived.Test.YtbjhondbheijiaaDoorRNa
namespace Go.Lf
/-- How far the numbers of flights of two rows lie apart. -/
def dst (r x : FleetRow) : Int := max (r.Flights - x.Flights) (-(r.Flights - x.Flights))
def few (n : Int) (r x : FleetRow) : Bool := !x.Hidden && (!r.Hidden && (decide (1 ≤ dst r x) && decide (dst r x < n)))
def hit (a : List FleetRow) (n : Int) (r : FleetRow) : Bool := match a.find? (fun x => decide (x.Key = r.Key)) with
  | some x => few n r x
  | none => false
def rv (a : List FleetRow) (n : Int) (b : List FleetRow) : List Str := (b.filter (hit a n)).map FleetRow.Key
theorem rv_next {a b : List FleetRow} {n : Int} {i : Nat} {x : FleetRow} (hx : b[i]? = some x) : rv a n (b.take (i + 1)) = rv a n (b.take i) ++ (if hit a n x = true then [x.Key] else []) := by
  unfold rv
  rw [take_succ hx, List.filter_append, List.map_append]
  congr 1
  cases h : hit a n x <;> simp [h]
theorem rv_len (a b : List FleetRow) (n : Int) : (rv a n b).length ≤ b.length := by
  unfold rv; rw [List.length_map]; exact List.length_filter_le _ _
theorem idxR_eq (a : List FleetRow) (c : FleetRow) (hl : a.length ≤ 9223372036854775807) : ∃ m, F_slices_IndexFunc___api_FleetRow_api_FleetRow__fleet_Reveals_1 a c = some m ∧ (a.find? (fun x => decide (x.Key = c.Key)) = none → m = -1) ∧
    ∀ y, a.find? (fun x => decide (x.Key = c.Key)) = some y → 0 ≤ m ∧ at' a m = some y := by
  obtain ⟨m, h1, h2, h3⟩ := idx_find (fun (y : FleetRow) => decide (y.Key = c.Key)) a 0
  refine ⟨m, ?_, h2, fun y hy => ?_⟩
  · unfold F_slices_IndexFunc___api_FleetRow_api_FleetRow__fleet_Reveals_1
    simp only [letO_eq, joinO_eq]
    unfold F_slices_IndexFunc___api_FleetRow_api_FleetRow__fleet_Reveals_1_L1
    rw [← h1]
    refine loopO_find a _ _ hl ?_ ?_
    · intro kk i x hx hi
      unfold F_fleet_Reveals_1
      simp only [letO_eq, bindO_s]
      rw [lt_true hi, iteB_tr, at_ok hx, bindO_s, wrap1 hi hl]
      cases decide (x.Key = c.Key) <;> rfl
    · intro kk; simp only [letO_eq]; rw [lt_self]; rfl
  · obtain ⟨j, e1, e2⟩ := h3 y hy
    rw [e1, Nat.zero_add]; exact ⟨by omega, at_ok e2⟩
theorem gt_mem {l : List FleetRow} (g : Gt l) {p : FleetRow → Bool} {y : FleetRow} (h : l.find? p = some y) : 0 ≤ y.Flights ∧ y.Flights ≤ 1000000000 := g.fl y (List.mem_of_find?_eq_some h)
theorem pickB (rh xh p : Bool) (A : Option (List Str)) (s t : List Str) (hA : A = some (s ++ t)) : bindO (iteB rh (some true) (some xh)) (fun g => iteB g (some s) (iteB p A (some s))) = some (s ++ if (!xh && (!rh && p)) = true then t else []) := by
  subst hA
  cases rh <;> cases xh <;> cases p <;> simp [iteB, bindO]
theorem fReveals_L2 {a b : List FleetRow} (ga : Gt a) (gb : Gt b) {n : Int} (h1 : 1 ≤ n) (h2 : n ≤ 1000) : F_fleet_Reveals_L2 a b n (b.length : Int) ([], 0) = some (rv a n b) := by
  have hfa := ga.few
  have hfb := gb.few
  unfold F_fleet_Reveals_L2
  refine loopO_eq (fun (i : Nat) (s : List Str) => (s, (i : Int))) b (fun i s => s = rv a n (b.take i)) _ (by omega) ?_ ?_ [] (by simp [rv])
  · intro kk i s r hx hi hI
    have hr := gb.fl r (List.mem_of_getElem? hx)
    refine ⟨rv a n (b.take (i + 1)), rfl, ?_⟩
    have hsl : s.length ≤ 300 := by
      rw [hI]; have := rv_len a (b.take i) n; rw [List.length_take] at this; omega
    rw [rv_next hx, ← hI]
    simp only [letO_eq]
    obtain ⟨m, m1, m2, m3⟩ := idxR_eq a r (by omega)
    rw [lt_true hi, iteB_tr, at_ok hx, bindO_s, m1, bindO_s, wrap1 hi (by omega)]
    unfold hit
    cases hf : a.find? (fun x => decide (x.Key = r.Key)) with
    | none =>
      have := m2 hf
      subst this
      simp only [show decide ((-1 : Int) < 0) = true from rfl, iteB_tr, bindO_s, Bool.false_eq_true, if_false, List.append_nil]
    | some x =>
      obtain ⟨m4, m5⟩ := m3 x hf
      have hxf := gt_mem ga hf
      rw [decide_eq_false (show ¬ m < 0 by omega), iteB_fa, m5]
      have e1 : IntKind.i64.wrap (r.Flights - x.Flights) = r.Flights - x.Flights := Go.OB.wrap_i64 (by omega) (by omega)
      have e2 : IntKind.i64.wrap (-(r.Flights - x.Flights)) = -(r.Flights - x.Flights) := Go.OB.wrap_i64 (by omega) (by omega)
      have e3 : IntKind.i64.wrap (n - 1) = n - 1 := Go.OB.wrap_i64 (by omega) (by omega)
      have e4 : decide (max (r.Flights - x.Flights) (-(r.Flights - x.Flights)) ≤ n - 1) = decide (dst r x < n) := decide_eq_decide.2 (by unfold dst; omega)
      simp only [bindO_s, e1, e2, e3, fwithin, e4]
      have hA : bindO (app' 16 s [r.Key]) (fun x => some x) = some (s ++ [r.Key]) := by rw [appN s [r.Key] (by simp; omega) (by simp; omega), bindO_s]
      have hP := pickB r.Hidden x.Hidden (decide (1 ≤ dst r x) && decide (dst r x < n)) _ s [r.Key] hA
      refine (congrArg (fun z => bindO z fun (g : List Str) => kk (g, ((i + 1 : Nat) : Int))) hP).trans ?_
      rfl
  · intro kk s hI
    simp only [letO_eq]
    rw [lt_self, iteB_fa, hI, List.take_length]
theorem gt_pw : ∀ {l : List FleetRow}, (∀ (i j : Nat) (x y : FleetRow), l[i]? = some x → l[j]? = some y → i < j → x.Key ≠ y.Key) → l.Pairwise fun x y => x.Key ≠ y.Key
  | [], _ => .nil
  | x :: l, h => by
    refine List.pairwise_cons.2 ⟨fun y hy => ?_, gt_pw fun i j u v hu hv hij => h (i + 1) (j + 1) u v (by simpa using hu) (by simpa using hv) (by omega)⟩
    obtain ⟨j, hj⟩ := List.getElem?_of_mem hy
    exact h 0 (j + 1) x y rfl (by simpa using hj) (by omega)
theorem filter_find (k : Str) (q : FleetRow → Bool) : ∀ {l : List FleetRow}, (l.Pairwise fun x y => x.Key ≠ y.Key) → l.filter (fun x => decide (x.Key = k) && q x) = match l.find? (fun x => decide (x.Key = k)) with | some x => if q x = true then [x] else [] | none => []
  | [], _ => rfl
  | x :: l, h => by
    obtain ⟨h1, h2⟩ := List.pairwise_cons.1 h
    have ih := filter_find k q h2
    by_cases c : x.Key = k
    · have hn : l.filter (fun x => decide (x.Key = k) && q x) = [] := by
        rw [List.filter_eq_nil_iff]
        intro y hy hh
        have := h1 y hy
        simp at hh
        exact this (c.trans hh.1.symm)
      rw [List.filter_cons, List.find?_cons, hn]
      simp only [c, decide_true, Bool.true_and]
    · rw [List.filter_cons, List.find?_cons]
      simp only [c, decide_false, Bool.false_and, Bool.false_eq_true, if_false]
      exact ih
theorem rReveals_L2 {a b : List FleetRow} (ga : Gt a) (gb : Gt b) {n : Int} (s0 : List Str) (hs0 : s0.length ≤ 300) {i : Nat} {r : FleetRow} (hr : b[i]? = some r) : F_ref9_Reveals_L2 a b n (i : Int) (s0, 0) = some (s0 ++ (if hit a n r = true then [r.Key] else [])) := by
  have hfa := ga.few
  have hrf := gb.fl r (List.mem_of_getElem? hr)
  have hE : (if hit a n r = true then [r.Key] else []) = (a.filter fun x => decide (x.Key = r.Key) && few n r x).map fun _ => r.Key := by
    rw [filter_find r.Key (few n r) (gt_pw ga.key)]
    unfold hit
    cases a.find? (fun x => decide (x.Key = r.Key)) with
    | none => rfl
    | some x => cases h : few n r x <;> simp [h]
  rw [hE]
  unfold F_ref9_Reveals_L2
  refine loopO_eq (fun (i : Nat) (s : List Str) => (s, (i : Int))) a (fun j s => s = s0 ++ ((a.take j).filter fun x => decide (x.Key = r.Key) && few n r x).map fun _ => r.Key) _ (by omega) ?_ ?_ s0 (by simp)
  · intro kk j s x hx hj hI
    have hxf := ga.fl x (List.mem_of_getElem? hx)
    have hsl : s.length ≤ 600 := by
      rw [hI, List.length_append, List.length_map]
      have := List.length_filter_le (fun x => decide (x.Key = r.Key) && few n r x) (a.take j)
      rw [List.length_take] at this; omega
    refine ⟨_, rfl, ?_⟩
    have e0 : s0 ++ ((a.take (j + 1)).filter fun x => decide (x.Key = r.Key) && few n r x).map (fun _ => r.Key) = s ++ (if (decide (x.Key = r.Key) && few n r x) = true then [r.Key] else []) := by
      rw [take_succ hx, List.filter_append, List.map_append, ← List.append_assoc, ← hI]
      congr 1
      cases h : decide (x.Key = r.Key) && few n r x <;> simp [h]
    rw [e0]
    have e1 : IntKind.i64.wrap (r.Flights - x.Flights) = r.Flights - x.Flights := Go.OB.wrap_i64 (by omega) (by omega)
    have e2 : IntKind.i64.wrap (-(r.Flights - x.Flights)) = -(r.Flights - x.Flights) := Go.OB.wrap_i64 (by omega) (by omega)
    simp only [letO_eq]
    rw [lt_true hj, iteB_tr, at_ok hr, bindO_s, at_ok hx, bindO_s, wrap1 hj (by omega)]
    simp only [bindO_s, e1, e2]
    have e3 : iteB (decide (x.Key = r.Key)) (iteB (!x.Hidden) (iteB (!r.Hidden) (iteB (decide (1 ≤ max (r.Flights - x.Flights) (-(r.Flights - x.Flights)))) (some (decide (max (r.Flights - x.Flights) (-(r.Flights - x.Flights)) < n))) (some false)) (some false)) (some false)) (some false) = some (decide (x.Key = r.Key) && few n r x) := by
      unfold few dst
      simp only [iteB_and]
    rw [e3, bindO_s]
    cases decide (x.Key = r.Key) && few n r x
    · simp [iteB_fa, bindO_s]
    · rw [iteB_tr, appN s [r.Key] (by simp; omega) (by simp; omega), bindO_s, bindO_s]; simp
  · intro kk s hI
    simp only [letO_eq]
    rw [lt_self, iteB_fa, hI, List.take_length]
theorem rReveals_L1 {a b : List FleetRow} (ga : Gt a) (gb : Gt b) {n : Int} : F_ref9_Reveals_L1 a b n ([], 0) = some (rv a n b) := by
  have hfb := gb.few
  unfold F_ref9_Reveals_L1
  refine loopO_eq (fun (i : Nat) (s : List Str) => (s, (i : Int))) b (fun i s => s = rv a n (b.take i)) _ (by omega) ?_ ?_ [] (by simp [rv])
  · intro kk i s r hx hi hI
    refine ⟨rv a n (b.take (i + 1)), rfl, ?_⟩
    have hsl : s.length ≤ 300 := by
      rw [hI]; have := rv_len a (b.take i) n; rw [List.length_take] at this; omega
    rw [rv_next hx, ← hI]
    simp only [letO_eq]
    rw [lt_true hi, iteB_tr, rReveals_L2 ga gb s hsl hx, bindO_s, wrap1 hi (by omega)]
  · intro kk s hI
    simp only [letO_eq]
    rw [lt_self, iteB_fa, hI, List.take_length]
/-- What Reveals tells. -/
def revS (a b : List FleetRow) (n ca cb : Int) : List Str × Int := if ca ≠ 0 then ([], ca) else if cb ≠ 0 then ([], cb) else if (!(decide (1 ≤ n) && decide (n ≤ 1000))) = true then ([], 9) else (rv a n b, 0)
theorem Reveals_eq {a b : List FleetRow} (ha : okL okFleetRow a) (hb : okL okFleetRow b) (n : Int) {ca cb : Int} (hca : tabF a = some ca) (hcb : tabF b = some cb) :
    F_fleet_Reveals a b n = some (revS a b n ca cb) ∧ F_ref9_Reveals a b n = some (revS a b n ca cb) := by
  constructor
  · unfold F_fleet_Reveals
    rw [joinO_eq]
    simp only [letO_eq]
    have q : ∀ k, F_fleet_Reveals_L1 a b k (([a, b] : List (List FleetRow)).length : Int) 0 = if ca ≠ 0 then some ([], ca) else if cb ≠ 0 then some ([], cb) else k () := by
      intro k
      have e : F_fleet_Reveals_L1 a b k (([a, b] : List (List FleetRow)).length : Int) 0 = findO (fun _ x => if tabF x = some 0 then none else some (bindO (tabF x) fun c => some (([] : List Str), c))) (k ()) [a, b] 0 := by
        unfold F_fleet_Reveals_L1
        refine loopO_find [a, b] _ (k ()) (by simp) ?_ ?_
        · intro kk i x hx hi
          have hox : okL okFleetRow x := by
            have := List.mem_of_getElem? hx
            simp at this
            rcases this with rfl | rfl
            · exact ha
            · exact hb
          obtain ⟨c, hc⟩ := tabF_some x
          simp only [letO_eq]
          rw [lt_true hi, iteB_tr, at_ok hx, bindO_s, CheckTable_eq x hox, hc, bindO_s, wrap1 hi (by simp)]
          by_cases c0 : c = 0
          · subst c0; simp [iteB_fa]
          · rw [decide_eq_true c0, iteB_tr]; simp [c0, bindO_s]
        · intro kk; simp only [letO_eq]; rw [lt_self]; rfl
      rw [e, findO, findO, findO, hca, hcb]
      by_cases c1 : ca = 0
      · subst c1
        by_cases c2 : cb = 0
        · subst c2; simp
        · simp [c2, bindO_s]
      · simp [c1, bindO_s]
    rw [q, fwithin, bindO_s]
    unfold revS
    by_cases c1 : ca = 0
    · have n1 : ¬ (ca ≠ 0) := fun h => h c1
      rw [if_neg n1, if_neg n1]
      by_cases c2 : cb = 0
      · have n2 : ¬ (cb ≠ 0) := fun h => h c2
        rw [if_neg n2, if_neg n2]
        cases hw : (decide (1 ≤ n) && decide (n ≤ 1000))
        · rfl
        · subst c1; subst c2
          simp only [Bool.and_eq_true, decide_eq_true_eq] at hw
          rw [fReveals_L2 (gt_of hca) (gt_of hcb) hw.1 hw.2]
          rfl
      · rw [if_pos c2, if_pos c2]
    · rw [if_pos c1, if_pos c1]
  · unfold F_ref9_Reveals revS
    rw [rCheckTable_eq a ha, rCheckTable_eq b hb, hca, hcb]
    simp only [bindO_s, letO_eq, out9, not_out, iteB_dec]
    by_cases c1 : ca = 0
    · have n1 : ¬ (ca ≠ 0) := fun h => h c1
      rw [if_neg n1, if_neg n1]
      by_cases c2 : cb = 0
      · have n2 : ¬ (cb ≠ 0) := fun h => h c2
        rw [if_neg n2, if_neg n2]
        cases hw : (decide (1 ≤ n) && decide (n ≤ 1000))
        · rfl
        · subst c1; subst c2
          rw [rReveals_L1 (gt_of hca) (gt_of hcb)]
          rfl
      · rw [if_pos c2, if_pos c2]
    · rw [if_pos c1, if_pos c1]
end Go.Lf
namespace Go.Lf
section
variable {α β γ σ : Type}
theorem loopN_runI {body : (γ → Option β) → γ → Option β} (enc : Nat → σ → γ) (l : List α) (f : Nat → α → σ → σ ⊕ Option β) (fin : σ → Option β) (I : Nat → σ → Prop)
    (h : ∀ k i s x, l[i]? = some x → i < l.length → I i s → body k (enc i s) = match f i x s with | .inl s' => k (enc (i + 1) s') | .inr r => r) (hI : ∀ i s x s', l[i]? = some x → I i s → f i x s = .inl s' → I (i + 1) s') (hx : ∀ k s, I l.length s → body k (enc l.length s) = fin s) :
    ∀ (d i : Nat) (s : σ) (n : Nat), i + d = l.length → d < n → I i s → loopN body n (enc i s) = runL f fin (l.drop i) i s
  | 0, i, s, n, hd, hn, h0 => by
    obtain ⟨m, rfl⟩ : ∃ m, n = m + 1 := ⟨n - 1, by omega⟩
    obtain rfl : i = l.length := by omega
    rw [loopN, hx _ _ h0, List.drop_length]; rfl
  | d + 1, i, s, n, hd, hn, h0 => by
    obtain ⟨m, rfl⟩ : ∃ m, n = m + 1 := ⟨n - 1, by omega⟩
    have hi : i < l.length := by omega
    rw [loopN, h _ i s l[i] (List.getElem?_eq_getElem hi) hi h0, List.drop_eq_getElem_cons hi, runL]
    cases hf : f i l[i] s with
    | inl s' => exact loopN_runI enc l f fin I h hI hx d (i + 1) s' m (by omega) (by omega) (hI i s _ s' (List.getElem?_eq_getElem hi) h0 hf)
    | inr r => rfl
/-- A loop that may end early, with an invariant. -/
theorem loopO_runI {body : (γ → Option β) → γ → Option β} (enc : Nat → σ → γ) (l : List α) (f : Nat → α → σ → σ ⊕ Option β) (fin : σ → Option β) (I : Nat → σ → Prop) (hl : l.length ≤ 9223372036854775807)
    (h : ∀ k i s x, l[i]? = some x → i < l.length → I i s → body k (enc i s) = match f i x s with | .inl s' => k (enc (i + 1) s') | .inr r => r) (hI : ∀ i s x s', l[i]? = some x → I i s → f i x s = .inl s' → I (i + 1) s') (hx : ∀ k s, I l.length s → body k (enc l.length s) = fin s) (s : σ) (h0 : I 0 s) :
    loopO body (enc 0 s) = runL f fin l 0 s := by
  unfold loopO
  have := loopN_runI enc l f fin I h hI hx l.length 0 s FU (by omega) (FU_big hl) h0
  rwa [List.drop_zero] at this
theorem runL_ok {p : α → Bool} {g : σ → α → σ} {r : Option β} {fin : σ → Option β} : ∀ (l : List α) (i : Nat) (s : σ), runL (fun _ x s => if p x = true then .inl (g s x) else .inr r) fin l i s = if l.all p = true then fin (l.foldl g s) else r
  | [], _, _ => rfl
  | x :: l, i, s => by
    rw [runL]
    cases h : p x with
    | true => simp only [if_true]; rw [runL_ok l (i + 1) (g s x)]; simp [h]
    | false => simp [h]
end
def badC : Nat → UInt8 → Bool := fun _ c => decide ((c.toNat : Int) < 33) || decide (126 < (c.toNat : Int))
/-- A key that can be written. -/
def prn (s : Str) : Bool := !decide (s = [45]) && !anyI badC s 0
theorem printable_eq (s : Str) (hs : okS s) : F_fleet_printable s = some (prn s) := by
  unfold F_fleet_printable prn
  simp only [letO_eq, joinO_eq]
  cases decide (s = [45])
  · rw [iteB_fa]
    have e := findO_any badC (some false) (some true) s 0
    have q : F_fleet_printable_L1 s (fun _ => some true) (s.length : Int) 0 = findO (fun i x => if badC i x = true then some (some false) else none) (some true) s 0 := by
      unfold F_fleet_printable_L1
      refine loopO_find s _ (some true) hs ?_ ?_
      · intro kk i c hc hi
        simp only [letO_eq]
        rw [lt_true hi, iteB_tr, byte_nat hc, bindO_s, bindO_s, iteB_or2, bindO_s, wrap1 hi hs]
        show iteB (badC i c) _ _ = _
        cases badC i c <;> rfl
      · intro kk
        simp only [letO_eq, lt_self, iteB_fa]
    rw [q, e]
    cases anyI badC s 0 <;> rfl
  · rfl
def itoa (n : Int) : Str := Lib.decDigits n.toNat
theorem itoa_len (n : Int) (h : n ≤ 1000000000) : (itoa n).length ≤ 20 := by
  unfold itoa
  rw [Lib.decDigits_length]
  exact Lib.nDigits_le20 _ (by omega)
theorem Itoa_eq (n : Int) (h0 : 0 ≤ n) (h1 : n ≤ 1000000000) : F_strconv_Itoa n = some (itoa n) := by
  unfold F_strconv_Itoa F_internal_strconv_Itoa X_FormatInt
  rw [if_pos ⟨rfl, h0, by omega⟩]; rfl
def keyP (s : Str) : Str := if s = [] then [45] else s
/-- What stands behind the key. -/
def wordsL (x : FleetRow) : List Str := if x.Hidden = true then [[104, 105, 100, 100, 101, 110]] else (x.Flights :: x.Events).map itoa
def lineP (x : FleetRow) : Str := Lib.join ([114, 111, 119] :: keyP x.Key :: wordsL x) [32] ++ [10]
def textP (l : List FleetRow) : Str := (l.map lineP).flatten
theorem nums_app (s t : Str) : nums (s ++ t) = nums s ++ nums t := by simp [nums]
theorem textP_next {l : List FleetRow} {i : Nat} {x : FleetRow} (hx : l[i]? = some x) : textP (l.take (i + 1)) = textP (l.take i) ++ lineP x := by
  unfold textP
  rw [take_succ hx, List.map_append, List.flatten_append]; simp
theorem wordsL_sum : ∀ (l : List Int), (∀ n ∈ l, 0 ≤ n ∧ n ≤ 1000000000) → ((l.map itoa).map ([32] ++ ·)).flatten.length ≤ 21 * l.length
  | [], _ => by simp
  | n :: l, h => by
    have ih := wordsL_sum l fun m hm => h m (List.mem_cons_of_mem _ hm)
    have := itoa_len n (h n List.mem_cons_self).2
    simp only [List.map_cons, List.flatten_cons, List.length_append, List.length_cons, List.length_nil] at ih ⊢
    omega
/-- A row in range. -/
structure Gr1 (x : FleetRow) : Prop where
  fl : 0 ≤ x.Flights ∧ x.Flights ≤ 1000000000
  ev : ∀ n ∈ x.Events, 0 ≤ n ∧ n ≤ 1000000000
  many : x.Events.length ≤ 1048576
  key : x.Key.length ≤ 1048576
theorem keyP_len (s : Str) : (keyP s).length ≤ s.length + 1 := by
  unfold keyP; split <;> simp
theorem lineP_eq (x : FleetRow) : lineP x = [114, 111, 119, 32] ++ keyP x.Key ++ ((wordsL x).map ([32] ++ ·)).flatten ++ [10] := by
  unfold lineP
  rw [Lib.join_cons]
  simp [Lib.joinTail]
theorem lineP_len {x : FleetRow} (g : Gr1 x) : (lineP x).length ≤ 40 + x.Key.length + 21 * x.Events.length := by
  rw [lineP_eq]
  have h1 := keyP_len x.Key
  have h2 : ((wordsL x).map ([32] ++ ·)).flatten.length ≤ 21 * (x.Events.length + 1) := by
    unfold wordsL
    cases x.Hidden with
    | true => simp; omega
    | false =>
      simp only [Bool.false_eq_true, if_false]
      have := wordsL_sum (x.Flights :: x.Events) (fun n hn => by
        rcases List.mem_cons.1 hn with rfl | h
        · exact g.fl
        · exact g.ev n h)
      simpa using this
  simp only [List.length_append, List.length_cons, List.length_nil]
  omega
/-- The words of a row that is shown. -/
theorem fPrint_L2 (xs : List Int) (hx : ∀ n ∈ xs, 0 ≤ n ∧ n ≤ 1000000000) (hl : xs.length ≤ 2000000) (ws : List Str) (hw : ws.length ≤ 10) : F_fleet_Print_L2 xs (xs.length : Int) (ws, 0) = some (ws ++ xs.map itoa) := by
  unfold F_fleet_Print_L2
  refine loopO_eq (fun (i : Nat) (s : List Str) => (s, (i : Int))) xs (fun i s => s = ws ++ (xs.take i).map itoa) _ (by omega) ?_ ?_ ws (by simp)
  · intro kk i s n hn hi hI
    have hr := hx n (List.mem_of_getElem? hn)
    have hsl : s.length ≤ 3000000 := by rw [hI, List.length_append, List.length_map, List.length_take]; omega
    refine ⟨s ++ [itoa n], ?_, ?_⟩
    · rw [hI, List.take_add_one, hn]; simp
    · simp only [letO_eq]
      rw [lt_true hi, iteB_tr, at_ok hn, bindO_s, Itoa_eq n hr.1 hr.2, bindO_s, appN s [itoa n] (by simp; omega) (by simp; omega), bindO_s, wrap1 hi (by omega)]
  · intro kk s hI
    simp only [letO_eq]
    rw [lt_self, iteB_fa, hI, List.take_length]
def fP (x : FleetRow) (s : List Int) : List Int := s ++ nums (lineP x)
theorem fPrint_L1 (l : List FleetRow) (hl : l.length ≤ 300) (g : ∀ x ∈ l, Gr1 x) (hT : (textP l).length ≤ 1000000000) (k : List Int → Option (Str × Int)) :
    F_fleet_Print_L1 l k (l.length : Int) (0, []) = if (l.all fun x => prn x.Key) = true then k (nums (textP l)) else some ([], 2) := by
  have hfold : ∀ (m : List FleetRow) (s : List Int), m.foldl (fun s x => fP x s) s = s ++ nums (textP m) := by
    intro m
    induction m with
    | nil => intro s; simp [textP, nums]
    | cons x m ih => intro s; rw [List.foldl_cons, ih]; unfold fP textP; simp [nums_app]
  have hfin := runL_ok (p := fun x => prn x.Key) (g := fun s x => fP x s) (r := (some (([] : Str), (2 : Int)))) (fin := k) l 0 []
  rw [hfold, List.nil_append] at hfin
  rw [← hfin]
  unfold F_fleet_Print_L1
  refine loopO_runI (fun (i : Nat) (s : List Int) => ((i : Int), s)) l _ k (fun i s => s = nums (textP (l.take i))) (by omega) ?_ ?_ ?_ [] (by simp [textP, nums])
  · intro kk i s x hx hi hI
    have hm := List.mem_of_getElem? hx
    have gx := g x hm
    have gk := gx.key
    have gm := gx.many
    have hsl : s.length + (lineP x).length ≤ 1000000000 := by
      rw [hI, nums_len]
      have h1 : (textP (l.take (i + 1))).length ≤ (textP l).length := by
        conv => rhs; rw [← List.take_append_drop (i + 1) l]
        unfold textP; rw [List.map_append, List.flatten_append, List.length_append]; omega
      rw [textP_next hx, List.length_append] at h1
      omega
    simp only [letO_eq, joinO_eq]
    rw [lt_true hi, iteB_tr, at_ok hx, bindO_s, printable_eq x.Key (by unfold okS; omega), bindO_s, wrap1 hi (by omega)]
    cases hp : prn x.Key with
    | false => rfl
    | true =>
      simp only [Bool.not_true, iteB_fa, if_true]
      have e1 : iteB (decide (x.Key = [])) (bindO (at' ([[114, 111, 119], x.Key] : List Str) 1) fun x2714 => bindO (set' ([[114, 111, 119], x.Key] : List Str) 1 [45]) fun x2725 => some x2725) (some ([[114, 111, 119], x.Key] : List Str)) = some [[114, 111, 119], keyP x.Key] := by
        unfold keyP
        by_cases c : x.Key = []
        · rw [decide_eq_true c, iteB_tr, if_pos c]; rfl
        · rw [decide_eq_false c, iteB_fa, if_neg c]
      rw [e1, bindO_s]
      have e2 : iteB x.Hidden (bindO (app' 16 ([[114, 111, 119], keyP x.Key] : List Str) ([[104, 105, 100, 100, 101, 110]] : List Str)) fun x2896 => some x2896) (bindO (app' 8 ([x.Flights] : List Int) x.Events) fun x2906 => F_fleet_Print_L2 x2906 (x2906.length : Int) ([[114, 111, 119], keyP x.Key], 0)) = some ([114, 111, 119] :: keyP x.Key :: wordsL x) := by
        unfold wordsL
        cases x.Hidden with
        | true =>
          rw [iteB_tr, appN _ _ (by simp) (by simp), bindO_s]; rfl
        | false =>
          rw [iteB_fa, appN [x.Flights] x.Events (by simp; omega) (by simp; omega), bindO_s, fPrint_L2 _ (fun n hn => by
            rcases List.mem_append.1 hn with h | h
            · have := List.mem_singleton.1 h; subst this; exact gx.fl
            · exact gx.ev n h) (by simp; omega) _ (by simp)]
          rfl
      rw [e2, bindO_s]
      have hj : (Lib.join ([114, 111, 119] :: keyP x.Key :: wordsL x) [32]).length + 1 = (lineP x).length := by unfold lineP; simp
      have hwl : ([114, 111, 119] :: keyP x.Key :: wordsL x).length ≤ 2000000 := by
        unfold wordsL
        cases x.Hidden <;> simp <;> omega
      have e3 : X_Join ([114, 111, 119] :: keyP x.Key :: wordsL x) [32] = some (Lib.join ([114, 111, 119] :: keyP x.Key :: wordsL x) [32]) := by
        unfold X_Join; rw [if_pos ⟨by omega, by omega⟩]
      have e4 : cat' (Lib.join ([114, 111, 119] :: keyP x.Key :: wordsL x) [32]) [10] = some (lineP x) := by
        unfold cat'; rw [if_pos (by simp only [List.length_cons, List.length_nil]; omega)]; rfl
      have e5 : F_strings_Builder_WriteString s (lineP x) = some (((lineP x).length : Int), (), fP x s) := by
        unfold F_strings_Builder_WriteString X_bcheck fP
        simp only [bindO_s, letO_eq]
        rw [app1 s _ (by rw [nums_len]; omega), bindO_s]
      rw [e3, bindO_s, e4, bindO_s, e5, bindO_s]
  · intro i s x s' hx hI hf
    cases hp : prn x.Key with
    | false => simp [hp] at hf
    | true =>
      simp only [hp, if_true] at hf
      have hf : fP x s = s' := by injection hf
      rw [← hf, textP_next hx, nums_app, ← hI]; rfl
  · intro kk s hI
    simp only [letO_eq]
    rw [lt_self, iteB_fa]
end Go.Lf
namespace Go.Lf
theorem rPrint_L2 (x : FleetRow) (hs : okS x.Key) (k : Unit → Option (Str × Int)) : F_ref9_Print_L2 x k 0 = if anyI badC x.Key 0 = true then some ([], 2) else k () := by
  rw [← findO_any badC (some ([], 2)) (k ()) x.Key 0]
  unfold F_ref9_Print_L2
  refine loopO_find x.Key _ (k ()) hs ?_ ?_
  · intro kk i c hc hi
    simp only [letO_eq]
    rw [lt_true hi, iteB_tr, byte_nat hc, bindO_s, bindO_s, iteB_or2, bindO_s, wrap1 hi hs]
    show iteB (badC i c) _ _ = _
    cases badC i c <;> rfl
  · intro kk
    simp only [letO_eq, lt_self, iteB_fa]
theorem rPrint_L1 (l : List FleetRow) (hl : l.length ≤ 300) (g : ∀ x ∈ l, Gr1 x) (k : Unit → Option (Str × Int)) : F_ref9_Print_L1 l k 0 = if (l.all fun x => prn x.Key) = true then k () else some ([], 2) := by
  have hfin := runL_ok (p := fun (x : FleetRow) => prn x.Key) (g := fun (s : Unit) _ => s) (r := (some (([] : Str), (2 : Int)))) (fin := fun _ => k ()) l 0 ()
  rw [← hfin]
  unfold F_ref9_Print_L1
  refine loopO_runI (fun (i : Nat) (_ : Unit) => (i : Int)) l _ (fun _ => k ()) (fun _ _ => True) (by omega) ?_ ?_ ?_ () trivial
  · intro kk i s x hx hi _
    have gx := g x (List.mem_of_getElem? hx)
    have gk := gx.key
    simp only [letO_eq, joinO_eq]
    rw [lt_true hi, iteB_tr, at_ok hx, bindO_s, rPrint_L2 x (by unfold okS; omega), wrap1 hi (by omega)]
    unfold prn
    cases anyI badC x.Key 0
    · cases decide (x.Key = [45]) <;> rfl
    · cases decide (x.Key = [45]) <;> rfl
  · intros; trivial
  · intro kk s _
    simp only [letO_eq]
    rw [lt_self, iteB_fa]
theorem flat_next (xs : List Int) {i : Nat} {n : Int} (hn : xs[i]? = some n) : (((xs.take (i + 1)).map itoa).map ([32] ++ ·)).flatten = (((xs.take i).map itoa).map ([32] ++ ·)).flatten ++ ([32] ++ itoa n) := by
  rw [List.take_add_one, hn]
  simp
theorem rPrint_L4 (l : List FleetRow) {i : Nat} {x : FleetRow} (hx : l[i]? = some x) (gx : Gr1 x) (s0 : List Int) (hs0 : s0.length ≤ 2000000000) : F_ref9_Print_L4 l (i : Int) (s0, 0) = some (s0 ++ nums ((x.Events.map itoa).map ([32] ++ ·)).flatten) := by
  have gm := gx.many
  unfold F_ref9_Print_L4
  refine loopO_eq (fun (i : Nat) (s : List Int) => (s, (i : Int))) x.Events (fun j s => s = s0 ++ nums (((x.Events.take j).map itoa).map ([32] ++ ·)).flatten) _ (by omega) ?_ ?_ s0 (by simp [nums])
  · intro kk j s n hn hj hI
    have hr := gx.ev n (List.mem_of_getElem? hn)
    have hil := itoa_len n hr.2
    have hsl : s.length ≤ 2000000000 + 21 * 1048576 := by
      rw [hI, List.length_append, nums_len]
      have := wordsL_sum (x.Events.take j) fun m hm => gx.ev m (List.mem_of_mem_take hm)
      rw [List.length_take] at this
      omega
    refine ⟨s ++ nums ([32] ++ itoa n), ?_, ?_⟩
    · rw [hI, flat_next x.Events hn]; simp only [nums_app, List.append_assoc]
    · simp only [letO_eq]
      have e4 : cat' [32] (itoa n) = some ([32] ++ itoa n) := by
        unfold cat'; rw [if_pos (by simp only [List.length_cons, List.length_nil]; omega)]
      rw [at_ok hx, bindO_s, lt_true hj, iteB_tr, bindO_s, at_ok hn, bindO_s, Itoa_eq n hr.1 hr.2, bindO_s, e4, bindO_s, app1 s _ (by rw [nums_len, List.length_append]; simp only [List.length_cons, List.length_nil]; omega), bindO_s, wrap1 hj (by omega)]
  · intro kk s hI
    simp only [letO_eq]
    rw [at_ok hx, bindO_s, lt_self, iteB_fa, hI, List.take_length]
theorem rPrint_L3 (l : List FleetRow) (hl : l.length ≤ 300) (g : ∀ x ∈ l, Gr1 x) (hT : (textP l).length ≤ 1000000000) : F_ref9_Print_L3 l ([], 0) = some (nums (textP l)) := by
  unfold F_ref9_Print_L3
  refine loopO_eq (fun (i : Nat) (s : List Int) => (s, (i : Int))) l (fun i s => s = nums (textP (l.take i))) _ (by omega) ?_ ?_ [] (by simp [textP, nums])
  · intro kk i s x hx hi hI
    have gx := g x (List.mem_of_getElem? hx)
    have gk := gx.key
    have gm := gx.many
    have hsl : s.length + (lineP x).length ≤ 1000000000 := by
      rw [hI, nums_len]
      have h1 : (textP (l.take (i + 1))).length ≤ (textP l).length := by
        conv => rhs; rw [← List.take_append_drop (i + 1) l]
        unfold textP; rw [List.map_append, List.flatten_append, List.length_append]; omega
      rw [textP_next hx, List.length_append] at h1
      omega
    have hkl := keyP_len x.Key
    refine ⟨s ++ nums (lineP x), by rw [hI, textP_next hx, nums_app], ?_⟩
    simp only [letO_eq]
    rw [lt_true hi, iteB_tr, at_ok hx, wrap1 hi (by omega)]
    simp only [bindO_s]
    have e1 : iteB (decide (x.Key = [])) (some ([45] : Str)) (some x.Key) = some (keyP x.Key) := by
      unfold keyP
      by_cases c : x.Key = []
      · rw [decide_eq_true c, iteB_tr, if_pos c]
      · rw [decide_eq_false c, iteB_fa, if_neg c]
    have e2 : cat' [114, 111, 119, 32] (keyP x.Key) = some ([114, 111, 119, 32] ++ keyP x.Key) := by
      unfold cat'; rw [if_pos (by simp only [List.length_cons, List.length_nil]; omega)]
    rw [e1, bindO_s, e2, bindO_s, app1 s _ (by rw [nums_len, List.length_append]; simp only [List.length_cons, List.length_nil]; omega), bindO_s]
    have hs1 : (s ++ nums ([114, 111, 119, 32] ++ keyP x.Key)).length ≤ 1100000000 := by
      rw [List.length_append, nums_len, List.length_append]; simp only [List.length_cons, List.length_nil]; omega
    have e3 : iteB x.Hidden (bindO (app' 1 (s ++ nums ([114, 111, 119, 32] ++ keyP x.Key)) (nums [32, 104, 105, 100, 100, 101, 110])) fun x4697 => some x4697)
        (bindO (F_strconv_Itoa x.Flights) fun x4718 => bindO (cat' [32] x4718) fun x4722 => bindO (app' 1 (s ++ nums ([114, 111, 119, 32] ++ keyP x.Key)) (nums x4722)) fun x4724 => F_ref9_Print_L4 l (i : Int) (x4724, 0)) = some (s ++ nums ([114, 111, 119, 32] ++ keyP x.Key) ++ nums ((wordsL x).map ([32] ++ ·)).flatten) := by
      generalize s ++ nums ([114, 111, 119, 32] ++ keyP x.Key) = t at hs1
      unfold wordsL
      cases x.Hidden with
      | true =>
        rw [iteB_tr, app1 t _ (by rw [nums_len]; simp only [List.length_cons, List.length_nil]; omega), bindO_s]; rfl
      | false =>
        have hr := gx.fl
        have hil := itoa_len x.Flights hr.2
        have e4 : cat' [32] (itoa x.Flights) = some ([32] ++ itoa x.Flights) := by
          unfold cat'; rw [if_pos (by simp only [List.length_cons, List.length_nil]; omega)]
        rw [iteB_fa, Itoa_eq _ hr.1 hr.2, bindO_s, e4, bindO_s, app1 t _ (by rw [nums_len, List.length_append]; simp only [List.length_cons, List.length_nil]; omega), bindO_s, rPrint_L4 l hx gx _ (by rw [List.length_append, nums_len, List.length_append]; simp only [List.length_cons, List.length_nil]; omega)]
        simp only [Bool.false_eq_true, if_false, List.map_cons, List.flatten_cons, nums_app, List.append_assoc]
    rw [e3, bindO_s]
    have hl1 : (s ++ nums ([114, 111, 119, 32] ++ keyP x.Key) ++ nums ((wordsL x).map ([32] ++ ·)).flatten) ++ [(10 : Int)] = s ++ nums (lineP x) := by
      rw [lineP_eq]; simp [nums_app, nums]
    have hl2 : (s ++ nums ([114, 111, 119, 32] ++ keyP x.Key) ++ nums ((wordsL x).map ([32] ++ ·)).flatten).length + 1 ≤ 1000000000 := by
      have := congrArg List.length hl1
      simp only [List.length_append, List.length_cons, List.length_nil, nums_len] at this ⊢
      omega
    rw [app1 _ [10] (by simp only [List.length_cons, List.length_nil]; omega), bindO_s, bindO_s, hl1]
  · intro kk s hI
    simp only [letO_eq]
    rw [lt_self, iteB_fa, hI, List.take_length]
/-- What Print writes. -/
def prS (l : List FleetRow) (c : Int) : Str × Int := if c ≠ 0 then ([], c) else if (l.all fun x => prn x.Key) = true then (if 1000000 < ((textP l).length : Int) then ([], 3) else (textP l, 0)) else ([], 2)
theorem Print_eq {l : List FleetRow} (h : okL okFleetRow l) (hg : tabF l = some 0 → ∀ x ∈ l, Gr1 x) (hT : (tabF l = some 0) → (textP l).length ≤ 1000000000) {c : Int} (hc : tabF l = some c) :
    F_fleet_Print l = some (prS l c) ∧ F_ref9_Print l = some (prS l c) := by
  unfold F_fleet_Print F_ref9_Print prS
  rw [CheckTable_eq l h, rCheckTable_eq l h, hc]
  simp only [bindO_s, letO_eq, joinO_eq]
  by_cases c0 : c = 0
  · subst c0
    have g := gt_of hc
    have n1 : ¬ ((0 : Int) ≠ 0) := fun h => h rfl
    rw [decide_eq_false n1, iteB_fa, iteB_fa, if_neg n1, fPrint_L1 l g.few (hg hc) (hT hc), rPrint_L1 l g.few (hg hc)]
    cases l.all fun x => prn x.Key with
    | false => exact ⟨rfl, rfl⟩
    | true =>
      simp only [if_true]
      rw [rPrint_L3 l g.few (hg hc) (hT hc)]
      unfold F_strings_Builder_Len X_bstring
      simp only [bindO_s, letO_eq, nums_len, str_nums, if_true]
      by_cases c2 : 1000000 < ((textP l).length : Int)
      · rw [decide_eq_true c2, iteB_tr, if_pos c2]; exact ⟨rfl, rfl⟩
      · rw [decide_eq_false c2, iteB_fa, if_neg c2]; exact ⟨rfl, rfl⟩
  · rw [decide_eq_true c0, iteB_tr, iteB_tr, if_pos c0]
    exact ⟨rfl, rfl⟩
end Go.Lf
namespace Go.Lf
theorem AppendUint_ex (p : List Int) (n : Int) (hn : 0 ≤ n ∧ n ≤ 18446744073709551615) (h : p.length + 20 ≤ 140737488355328) : ∃ q, X_AppendUint p n 10 = some q ∧ q.length ≤ p.length + 20 := by
  unfold X_AppendUint
  rw [if_pos ⟨rfl, hn.1, hn.2, h⟩]
  refine ⟨_, rfl, ?_⟩
  rw [List.length_append, nums_len, Lib.decDigits_length]
  have := Lib.nDigits_le20 n.toNat (by omega)
  omega
theorem u64_rng (n : Int) : 0 ≤ IntKind.u64.wrap n ∧ IntKind.u64.wrap n ≤ 18446744073709551615 := by
  rw [IntKind.wrap_u64]; omega
theorem AppendInt_ex (p : List Int) (n : Int) (h : p.length + 21 ≤ 140737488355328) : ∃ q, F_strconv_AppendInt p n 10 = some q ∧ q.length ≤ p.length + 21 := by
  have e : ∃ q, F_internal_strconv_AppendInt p n 10 = some q ∧ q.length ≤ p.length + 21 := by
    unfold F_internal_strconv_AppendInt
    simp only [letO_eq, iteB_dec]
    by_cases c : n < 0
    · have ha := app1 p [45] (by simp; omega)
      rw [if_pos c, ha, bindO_s, bindO_s]
      obtain ⟨q, h1, h2⟩ := AppendUint_ex (p ++ [45]) (IntKind.u64.wrap (-IntKind.u64.wrap n)) (u64_rng _) (by simp; omega)
      simp only []
      rw [h1, bindO_s]
      exact ⟨q, rfl, by simp at h2; omega⟩
    · rw [if_neg c, bindO_s]
      obtain ⟨q, h1, h2⟩ := AppendUint_ex p (IntKind.u64.wrap n) (u64_rng _) (by omega)
      simp only []
      rw [h1, bindO_s]
      exact ⟨q, rfl, by omega⟩
  obtain ⟨q, h1, h2⟩ := e
  unfold F_strconv_AppendInt
  rw [h1, bindO_s]
  exact ⟨q, rfl, h2⟩
/-- An ink's text is at most so long. -/
def Gr (r : Option Orangeboxref0Ink) (n : Nat) : Prop := ∃ q, r = some q ∧ q.out.length ≤ n
theorem Gr.bind {a : Option Orangeboxref0Ink} {k : Orangeboxref0Ink → Option Orangeboxref0Ink} {n m : Nat} (h : Gr a n) (hk : ∀ q, q.out.length ≤ n → Gr (k q) m) : Gr (bindO a k) m := by
  obtain ⟨q, h1, h2⟩ := h
  rw [h1, bindO_s]; exact hk q h2
theorem Gr.some {q : Orangeboxref0Ink} {n : Nat} (h : q.out.length ≤ n) : Gr (Option.some q) n := ⟨q, rfl, h⟩
theorem ink_Int (p : Orangeboxref0Ink) (n : Int) {b : Nat} (hp : p.out.length ≤ b) (h : b ≤ 100000000000000) : Gr (F_ref0_Ink_Int p n) (b + 22) := by
  obtain ⟨q, h1, h2⟩ := AppendInt_ex p.out n (by omega)
  unfold F_ref0_Ink_Int
  rw [h1, bindO_s]
  simp only [letO_eq]
  rw [app1 q [32] (by simp; omega), bindO_s]
  exact Gr.some (by simp; omega)
theorem ink_Ints (p : Orangeboxref0Ink) (l : List Int) {b : Nat} (hp : p.out.length ≤ b) (h : b + 22 + 22 * l.length ≤ 100000000000000) : Gr (F_ref0_Ink_Ints p l) (b + 22 + 22 * l.length) := by
  unfold F_ref0_Ink_Ints
  simp only [letO_eq]
  refine (ink_Int p _ hp (by omega)).bind fun q hq => ?_
  unfold F_ref0_Ink_Ints_L1
  refine loopO_inv (fun (i : Nat) (s : List Int) => ((i : Int), s)) l (fun i s => s.length ≤ b + 22 + 22 * i) (fun (r : Orangeboxref0Ink) => r.out.length ≤ b + 22 + 22 * l.length) (by omega) ?_ ?_ _ (by simpa using hq)
  · intro kk i s x hx hi hI
    obtain ⟨r, h1, h2⟩ := ink_Int (Orangeboxref0Ink.mk s) x hI (by omega)
    refine ⟨r.out, by omega, ?_⟩
    simp only [letO_eq]
    rw [lt_true hi, iteB_tr, at_ok hx, bindO_s, h1, bindO_s, wrap1 hi (by omega)]
  · intro kk s hI
    simp only [letO_eq]
    rw [lt_self, iteB_fa]
    exact ⟨_, rfl, hI⟩
theorem ink_Text (p : Orangeboxref0Ink) (s : Str) {b : Nat} (hp : p.out.length ≤ b) (h : b + 22 + s.length ≤ 100000000000000) : Gr (F_ref0_Ink_Text p s) (b + 22 + s.length) := by
  unfold F_ref0_Ink_Text
  simp only [letO_eq]
  refine (ink_Int p _ hp (by omega)).bind fun q hq => ?_
  rw [app1 q.out (nums s) (by rw [nums_len]; omega), bindO_s]
  exact Gr.some (by simp [nums_len]; omega)
theorem ink_Bool (p : Orangeboxref0Ink) (x : Bool) {b : Nat} (hp : p.out.length ≤ b) (h : b ≤ 100000000000000) : Gr (F_ref0_Ink_Bool p x) (b + 5) := by
  unfold F_ref0_Ink_Bool F_strconv_AppendBool F_internal_strconv_AppendBool
  cases x with
  | true => rw [iteB_tr, app1 p.out _ (by rw [nums_len]; simp only [List.length_cons, List.length_nil]; omega), bindO_s, bindO_s, bindO_s]; exact Gr.some (by simp [nums_len]; omega)
  | false => rw [iteB_fa, app1 p.out _ (by rw [nums_len]; simp only [List.length_cons, List.length_nil]; omega), bindO_s, bindO_s, bindO_s]; exact Gr.some (by simp [nums_len]; omega)
theorem ink_TextsK (K : Nat) (hK : K = 1048600) (p : Orangeboxref0Ink) (l : List Str) {b : Nat} (hl : l.length ≤ 300) (hs : ∀ s ∈ l, s.length ≤ 1048576) (hp : p.out.length ≤ b) (h : b + 22 + K * l.length ≤ 1000000000) : Gr (F_ref0_Ink_Texts p l) (b + 22 + K * l.length) := by
  unfold F_ref0_Ink_Texts
  simp only [letO_eq]
  refine (ink_Int p _ hp (by omega)).bind fun q hq => ?_
  unfold F_ref0_Ink_Texts_L1
  refine loopO_inv (fun (i : Nat) (s : List Int) => ((i : Int), s)) l (fun i s => s.length ≤ b + 22 + K * i) (fun (r : Orangeboxref0Ink) => r.out.length ≤ b + 22 + K * l.length) (by omega) ?_ ?_ _ (by simpa using hq)
  · intro kk i s x hx hi hI
    have hI : s.length ≤ b + 22 + K * i := hI
    have e2 := Nat.mul_le_mul_left K (show i + 1 ≤ l.length from hi)
    rw [Nat.mul_succ] at e2
    have hxl := hs x (List.mem_of_getElem? hx)
    obtain ⟨r, h1, h2⟩ := ink_Text (Orangeboxref0Ink.mk s) x hI (by omega)
    have hh : r.out.length ≤ b + 22 + K * (i + 1) := by rw [Nat.mul_succ]; omega
    refine ⟨r.out, hh, ?_⟩
    simp only [letO_eq]
    rw [lt_true hi, iteB_tr, at_ok hx, bindO_s, h1, bindO_s, wrap1 hi (by omega)]
  · intro kk s hI
    simp only [letO_eq]
    rw [lt_self, iteB_fa]
    exact ⟨_, rfl, hI⟩
theorem ink_Texts (l : List Str) (hl : l.length ≤ 300) (hs : ∀ s ∈ l, s.length ≤ 1048576) : Gr (F_ref0_Ink_Texts (Orangeboxref0Ink.mk []) l) 400000000 := by
  obtain ⟨K, hK⟩ : ∃ K : Nat, K = 1048600 := ⟨_, rfl⟩
  have e := Nat.mul_le_mul_left K hl
  have e2 : K * 300 = 314580000 := by rw [hK]
  obtain ⟨q, h1, h2⟩ := ink_TextsK K hK (Orangeboxref0Ink.mk []) l (b := 0) hl hs (Nat.le_refl _) (by omega)
  exact ⟨q, h1, by omega⟩
theorem ink_Row (p : Orangeboxref0Ink) (x : FleetRow) {b : Nat} (hk : x.Key.length ≤ 1048576) (he : x.Events.length ≤ 1048576) (hp : p.out.length ≤ b) (h : b ≤ 100000000) : Gr (F_ref0_Ink_Row p x) (b + 30000000) := by
  unfold F_ref0_Ink_Row
  refine (ink_Text p x.Key hp (by omega)).bind fun q hq => ?_
  refine (ink_Bool q x.Hidden hq (by omega)).bind fun q hq => ?_
  refine (ink_Int q x.Flights hq (by omega)).bind fun q hq => ?_
  refine (ink_Ints q x.Events hq (by omega)).bind fun q hq => ?_
  exact Gr.some (by omega)
theorem rows_ex {x : FleetRow} (hk : x.Key.length ≤ 1048576) (he : x.Events.length ≤ 1048576) (e : Int) : ∃ s, F_law9_rows [x] e = some s := by
  have q : Gr (F_ref0_Ink_Rows (Orangeboxref0Ink.mk []) [x]) 100000000 := by
    unfold F_ref0_Ink_Rows
    simp only [letO_eq]
    refine (ink_Int (b := 0) (Orangeboxref0Ink.mk []) _ (Nat.le_refl _) (by decide)).bind fun q hq => ?_
    unfold F_ref0_Ink_Rows_L1
    refine loopO_inv (fun (i : Nat) (s : List Int) => ((i : Int), s)) [x] (fun i s => s.length ≤ 22 + 30000000 * i) (fun (r : Orangeboxref0Ink) => r.out.length ≤ 100000000) (by simp) ?_ ?_ _ (by simpa using hq)
    · intro kk i s y hy hi hI
      have hi0 : i = 0 := by simp at hi; exact hi
      subst hi0
      have hyx : x = y := by simpa using hy
      subst hyx
      have hI : s.length ≤ 22 + 30000000 * 0 := hI
      obtain ⟨r, h1, h2⟩ := ink_Row (Orangeboxref0Ink.mk s) x hk he hI (by decide)
      refine ⟨r.out, by omega, ?_⟩
      simp only [letO_eq]
      rw [lt_true hi, iteB_tr, at_ok hy, bindO_s, h1, bindO_s, wrap1 hi (by simp)]
    · intro kk s hI
      simp only [letO_eq]
      rw [lt_self, iteB_fa]
      exact ⟨_, rfl, Nat.le_trans hI (by simp)⟩
  obtain ⟨r, h1, h2⟩ := q
  obtain ⟨r2, h3, h4⟩ := ink_Int r e h2 (by decide)
  unfold F_law9_rows F_ref0_Ink_Errno F_ref0_Ink_Told
  rw [h1, bindO_s, h3]
  exact ⟨_, rfl⟩
theorem totals_ok : F_law9_totals = some true := by decide +kernel
/-- How much a table holds. -/
def bulkR (l : List FleetRow) : Nat := (l.map fun x => x.Key.length + x.Events.length).sum
theorem bulk_mem : ∀ {l : List FleetRow} {x : FleetRow}, x ∈ l → x.Key.length + x.Events.length ≤ bulkR l
  | y :: l, x, h => by
    unfold bulkR
    rw [List.map_cons, List.sum_cons]
    rcases List.mem_cons.1 h with rfl | h
    · omega
    · have := bulk_mem h
      unfold bulkR at this
      omega
theorem text_bulk : ∀ (l : List FleetRow), (∀ x ∈ l, Gr1 x) → (textP l).length ≤ 40 * l.length + 21 * bulkR l
  | [], _ => by simp [textP]
  | x :: l, h => by
    have ih := text_bulk l fun y hy => h y (List.mem_cons_of_mem _ hy)
    have h1 := lineP_len (h x List.mem_cons_self)
    unfold textP bulkR at *
    simp only [List.map_cons, List.flatten_cons, List.length_append, List.sum_cons, List.length_cons]
    omega
theorem ones_sum : ∀ (l : List Int), (l.map fun _ => 1).sum = l.length
  | [] => rfl
  | _ :: l => by rw [List.map_cons, List.sum_cons, ones_sum l, List.length_cons]; omega
theorem bulk_k : ∀ (l : List FleetRow), bulkR l ≤ (l.map fun x => (x.Key.length + (1 + (1 + (x.Events.map fun _ => 1).sum)))).sum
  | [] => by simp [bulkR]
  | x :: l => by
    have ih := bulk_k l
    have h1 := ones_sum x.Events
    unfold bulkR at *
    simp only [List.map_cons, List.sum_cons]
    omega
theorem law_Rows (a b : List FleetRow) (n : Int) (ha : okL okFleetRow a) (hb : okL okFleetRow b) (_hn : i64 n) (ka : bulkR a ≤ 1048576) (kb : bulkR b ≤ 1048576) : F_law9_FleetRowsMatchSpec a b n = some true := by
  obtain ⟨ca, hca⟩ := tabF_some a
  obtain ⟨cb, hcb⟩ := tabF_some b
  have hE : ∀ x ∈ a, x.Events.length ≤ 1048576 := fun x hx => by have := bulk_mem hx; omega
  have g1 : tabF a = some 0 → ∀ x ∈ a, Gr1 x := fun h x hx => by
    have g := gt_of h
    have := bulk_mem hx
    exact ⟨g.fl x hx, g.ev x hx, by omega, by omega⟩
  have hT : tabF a = some 0 → (textP a).length ≤ 1000000000 := fun h => by
    have := text_bulk a (g1 h)
    have := (gt_of h).few
    omega
  have ne : ∀ s : Str, decide (s ≠ s) = false := fun s => decide_eq_false (fun q => q rfl)
  have ni : ∀ s : Int, decide (s ≠ s) = false := fun s => decide_eq_false (fun q => q rfl)
  obtain ⟨t1, t2⟩ := Total_eq ha hE hca
  obtain ⟨r1, r2⟩ := Reveals_eq ha hb n hca hcb
  obtain ⟨p1, p2⟩ := Print_eq ha g1 hT hca
  have hx : ∃ s, F_law9_rows [if ca = 0 then tot a else FleetRow.mk [] false 0 []] ca = some s := by
    by_cases c : ca = 0
    · subst c
      rw [if_pos rfl]
      exact rows_ex (by simp [tot]) (tot_len (gt_of hca) hE) 0
    · rw [if_neg c]
      exact rows_ex (by simp) (by simp) ca
  obtain ⟨s, hs⟩ := hx
  have hR : ∃ q : Orangeboxref0Ink, F_ref0_Ink_Texts (Orangeboxref0Ink.mk []) (revS a b n ca cb).1 = some q ∧ q.out.length ≤ 400000000 := by
    unfold revS
    by_cases c1 : ca = 0
    · rw [if_neg (fun h => h c1)]
      by_cases c2 : cb = 0
      · rw [if_neg (fun h => h c2)]
        split
        · exact ink_Texts [] (by simp) (by simp)
        · subst c2
          refine ink_Texts (rv a n b) (Nat.le_trans (rv_len a b n) (gt_of hcb).few) fun k hk => ?_
          unfold rv at hk
          obtain ⟨x, hx, rfl⟩ := List.mem_map.1 hk
          have := bulk_mem ((List.mem_filter.1 hx).1)
          omega
      · rw [if_pos c2]
        exact ink_Texts [] (by simp) (by simp)
    · rw [if_pos c1]
      exact ink_Texts [] (by simp) (by simp)
  obtain ⟨q, hq, hql⟩ := hR
  obtain ⟨q2, hq2, _⟩ := ink_Int q (revS a b n ca cb).2 hql (by decide)
  unfold F_law9_FleetRowsMatchSpec
  rw [t1, t2, r1, r2, p1, p2, CheckTable_eq a ha, rCheckTable_eq a ha, hca]
  simp only [bindO_s, letO_eq, ni, iteB_fa, hs, ne, hq]
  unfold F_ref0_Ink_Errno F_ref0_Ink_Told
  rw [hq2]
  simp only [bindO_s, letO_eq, totals_ok, decide_true, iteB_tr]
end Go.Lf
