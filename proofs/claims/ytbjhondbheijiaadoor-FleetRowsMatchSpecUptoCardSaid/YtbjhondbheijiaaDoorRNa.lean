/- Walks: what each function computes, for every argument; no condition but those that stand in the statements. -/
import Derived.Test.YtbjhondbheijiaaDoorROk
namespace Go.Lf
section
variable {α β γ σ : Type}
/-- A loop that searches, with a state that is known at each place. -/
theorem loopO_findE {body : (γ → Option β) → γ → Option β} (enc : Nat → γ) (l : List α) (q : Nat → α → Option (Option β)) (fin : Option β) (hl : l.length ≤ 9223372036854775807)
    (h : ∀ k (i : Nat) x, l[i]? = some x → i < l.length → body k (enc i) = match q i x with | some r => r | none => k (enc (i + 1))) (hx : ∀ k, body k (enc l.length) = fin) : loopO body (enc 0) = findO q fin l 0 := by
  rw [← runL_find (f := fun i x _ => match q i x with | some r => .inr r | none => .inl ()) (fin := fun _ => fin) q (fun _ _ => rfl)]
  refine loopO_runL (fun (i : Nat) (_ : Unit) => enc i) l _ _ hl (fun k i s x hx' => ?_) (fun k s => hx k) ()
  rw [h k i x hx' (List.getElem?_eq_some_iff.1 hx').1]
  cases q i x <;> rfl
theorem idx_any (p : Nat → α → Bool) : ∀ (l : List α) (i : Nat), ∃ n, findO (fun i x => if p i x = true then some (some (i : Int)) else none) (some (-1)) l i = some n ∧ decide (0 ≤ n) = anyI p l i
  | [], i => ⟨-1, rfl, rfl⟩
  | x :: l, i => by
    rw [findO, anyI]
    cases h : p i x with
    | true => exact ⟨i, rfl, by simp⟩
    | false => simpa using idx_any p l (i + 1)
theorem idx_find (p : α → Bool) : ∀ (l : List α) (i : Nat), ∃ n, findO (fun i x => if p x = true then some (some (i : Int)) else none) (some (-1)) l i = some n ∧ (l.find? p = none → n = -1) ∧ ∀ y, l.find? p = some y → ∃ j : Nat, n = ((i + j : Nat) : Int) ∧ l[j]? = some y
  | [], i => ⟨-1, rfl, fun _ => rfl, fun y h => by cases h⟩
  | x :: l, i => by
    rw [findO]
    cases h : p x with
    | true => exact ⟨i, by simp, fun h' => by simp [h] at h', fun y hy => ⟨0, by simp, by simpa [h] using hy⟩⟩
    | false =>
      obtain ⟨n, h1, h2, h3⟩ := idx_find p l (i + 1)
      refine ⟨n, by simpa using h1, fun h' => h2 (by simpa [h] using h'), fun y hy => ?_⟩
      obtain ⟨j, e1, e2⟩ := h3 y (by simpa [h] using hy)
      exact ⟨j + 1, by rw [e1]; congr 1; omega, by simpa using e2⟩
end
theorem fwithin (a b c : Int) : F_fleet_within a b c = some (decide (b ≤ a) && decide (a ≤ c)) := by
  unfold F_fleet_within; simp only [letO_eq, iteB_and, bindO_s]
theorem out9 (a b c : Int) : F_ref9_outside a b c = some (decide (a < b) || decide (c < a)) := by
  unfold F_ref9_outside; simp only [letO_eq, iteB_or2, bindO_s]
theorem not_out (a b c : Int) : (decide (a < b) || decide (c < a)) = !(decide (b ≤ a) && decide (a ≤ c)) := by
  by_cases h1 : b ≤ a <;> by_cases h2 : a ≤ c <;> simp [h1, h2] <;> omega
/-- A count that is out of range. -/
def wr (n : Int) : Bool := !(decide (0 ≤ n) && decide (n ≤ 1000000000))
theorem wrong_eq (n : Int) : F_fleet_CheckTable_2 n = some (wr n) := by
  unfold F_fleet_CheckTable_2
  rw [fwithin]; rfl
theorem wr_false {n : Int} : wr n = false ↔ 0 ≤ n ∧ n ≤ 1000000000 := by unfold wr; simp
theorem contK_eq (l : List FleetRow) (c : FleetRow) (hl : l.length ≤ 9223372036854775807) : F_slices_ContainsFunc___api_FleetRow_api_FleetRow__fleet_CheckTable_3 l c = some (anyI (fun _ y => decide (y.Key = c.Key)) l 0) := by
  obtain ⟨n, h1, h2⟩ := idx_any (fun (_ : Nat) (y : FleetRow) => decide (y.Key = c.Key)) l 0
  have e : F_slices_IndexFunc___api_FleetRow_api_FleetRow__fleet_CheckTable_3 l c = some n := by
    unfold F_slices_IndexFunc___api_FleetRow_api_FleetRow__fleet_CheckTable_3
    simp only [letO_eq, joinO_eq]
    unfold F_slices_IndexFunc___api_FleetRow_api_FleetRow__fleet_CheckTable_3_L1
    rw [← h1]
    refine loopO_find l _ _ hl ?_ ?_
    · intro kk i x hx hi
      unfold F_fleet_CheckTable_3
      simp only [letO_eq, bindO_s]
      rw [lt_true hi, iteB_tr, at_ok hx, bindO_s, wrap1 hi hl]
      cases decide (x.Key = c.Key) <;> rfl
    · intro kk; simp only [letO_eq]; rw [lt_self]; rfl
  unfold F_slices_ContainsFunc___api_FleetRow_api_FleetRow__fleet_CheckTable_3
  rw [e]
  simp only [letO_eq, bindO_s, h2]
theorem contW_eq (l : List Int) (hl : l.length ≤ 9223372036854775807) : F_slices_ContainsFunc___int_int__fleet_CheckTable_2 l = some (anyI (fun _ y => wr y) l 0) := by
  obtain ⟨n, h1, h2⟩ := idx_any (fun (_ : Nat) (y : Int) => wr y) l 0
  have e : F_slices_IndexFunc___int_int__fleet_CheckTable_2 l = some n := by
    unfold F_slices_IndexFunc___int_int__fleet_CheckTable_2
    simp only [letO_eq, joinO_eq]
    unfold F_slices_IndexFunc___int_int__fleet_CheckTable_2_L1
    rw [← h1]
    refine loopO_find l _ _ hl ?_ ?_
    · intro kk i x hx hi
      simp only [letO_eq]
      rw [lt_true hi, iteB_tr, at_ok hx, bindO_s, wrong_eq, bindO_s, wrap1 hi hl]
      cases wr x <;> rfl
    · intro kk; simp only [letO_eq]; rw [lt_self]; rfl
  unfold F_slices_ContainsFunc___int_int__fleet_CheckTable_2
  rw [e]
  simp only [letO_eq, bindO_s, h2]
/-- A row that is shown. -/
def shn (r : FleetRow) : Bool := !r.Hidden
/-- The number of events of the first row that is shown. -/
def many (l : List FleetRow) : Int := match l.find? shn with
  | some y => (y.Events.length : Int)
  | none => -1
def badF (x : FleetRow) : Bool := x.Hidden && (decide (x.Flights ≠ 0) || decide (0 < (x.Events.length : Int)))
def badW (x : FleetRow) : Bool := wr x.Flights || anyI (fun _ y => wr y) x.Events 0
/-- What is wrong with row i of a table. -/
def rowE (l : List FleetRow) (i : Nat) (x : FleetRow) : Int :=
  if anyI (fun _ y => decide (y.Key = x.Key)) (l.take i) 0 then 5 else if badF x then 2 else if badW x then 9 else if shn x && decide ((x.Events.length : Int) ≠ many l) then 2 else 0
def tabF (l : List FleetRow) : Option Int := if decide (300 < (l.length : Int)) then some 3 else findO (fun i x => if rowE l i x = 0 then none else some (some (rowE l i x))) (some 0) l 0
theorem first_eq (l : List FleetRow) (hl : l.length ≤ 9223372036854775807) : ∃ n, F_slices_IndexFunc___api_FleetRow_api_FleetRow__fleet_CheckTable_1 l = some n ∧ ∀ y, l.find? shn = some y → at' l n = some y := by
  obtain ⟨n, h1, _, h3⟩ := idx_find shn l 0
  refine ⟨n, ?_, fun y hy => ?_⟩
  · unfold F_slices_IndexFunc___api_FleetRow_api_FleetRow__fleet_CheckTable_1
    simp only [letO_eq, joinO_eq]
    unfold F_slices_IndexFunc___api_FleetRow_api_FleetRow__fleet_CheckTable_1_L1
    rw [← h1]
    refine loopO_find l _ _ hl ?_ ?_
    · intro kk i x hx hi
      unfold F_fleet_CheckTable_1
      simp only [letO_eq, bindO_s]
      rw [lt_true hi, iteB_tr, at_ok hx, bindO_s, wrap1 hi hl]
      unfold shn
      cases x.Hidden <;> rfl
    · intro kk; simp only [letO_eq]; rw [lt_self]; rfl
  · obtain ⟨j, e1, e2⟩ := h3 y hy
    rw [e1, Nat.zero_add]; exact at_ok e2
theorem find_shn {l : List FleetRow} {i : Nat} {x : FleetRow} (hx : l[i]? = some x) (h : shn x = true) : ∃ y, l.find? shn = some y := by
  cases e : l.find? shn with
  | some y => exact ⟨y, rfl⟩
  | none =>
    rw [List.find?_eq_none] at e
    exact absurd h (e x (List.mem_of_getElem? hx))
theorem CheckTable_eq (l : List FleetRow) (h : okL okFleetRow l) : F_fleet_CheckTable l = tabF l := by
  unfold F_fleet_CheckTable tabF
  simp only [letO_eq, iteB_ite]
  congr 1
  obtain ⟨n, h1, h2⟩ := first_eq l h.1
  rw [h1, bindO_s]
  simp only [joinO_eq]
  unfold F_fleet_CheckTable_L1
  refine loopO_find l _ _ h.1 ?_ ?_
  · intro kk i x hx hi
    have ox := h.2 x (List.mem_of_getElem? hx)
    simp only [letO_eq]
    rw [lt_true hi, iteB_tr, at_ok hx, bindO_s, sub_nat l (Nat.le_of_lt hi), bindO_s, contK_eq _ _ (Nat.le_trans (by rw [List.length_take]; exact Nat.min_le_right _ _) h.1), bindO_s, wrap1 hi h.1]
    simp only [wrong_eq, contW_eq _ ox.2.2.2.1, bindO_s, iteB_or2]
    unfold rowE
    cases anyI (fun _ y => decide (y.Key = x.Key)) (l.take i) 0
    · have e1 : iteB x.Hidden (some (decide (x.Flights ≠ 0) || decide (0 < (x.Events.length : Int)))) (some false) = some (badF x) := by unfold badF; cases x.Hidden <;> rfl
      rw [e1, bindO_s]
      cases badF x
      · simp only [iteB_fa]
        show iteB (badW x) _ _ = _
        cases badW x
        · simp only [iteB_fa]
          show bindO (iteB (shn x) _ _) _ = _
          cases hs : shn x
          · simp [iteB_fa, bindO_s]
          · obtain ⟨y, hy⟩ := find_shn hx hs
            rw [iteB_tr, h2 y hy, bindO_s, bindO_s]
            unfold many
            rw [hy]
            by_cases c : (x.Events.length : Int) = y.Events.length
            · simp [c, iteB_fa]
            · simp [c, iteB_tr]
        · rfl
      · rfl
    · rfl
  · intro kk; simp only [letO_eq]; rw [lt_self]; rfl
end Go.Lf
namespace Go.Lf
theorem rTable_L2 (l : List FleetRow) (hl : l.length ≤ 9223372036854775807) {i : Nat} {x : FleetRow} (hx : l[i]? = some x) (k : Unit → Option Int) : F_ref9_CheckTable_L2 l (i : Int) x k 0 = if anyI (fun _ y => decide (y.Key = x.Key)) (l.take i) 0 = true then some 5 else k () := by
  have hi := (List.getElem?_eq_some_iff.1 hx).1
  have ht : (l.take i).length = i := by rw [List.length_take]; exact Nat.min_eq_left (Nat.le_of_lt hi)
  have hm : (l.take i).length ≤ 9223372036854775807 := by rw [ht]; exact Nat.le_trans (Nat.le_of_lt hi) hl
  have e := findO_any (fun _ y => decide (y.Key = x.Key)) (some 5) (k ()) (l.take i) 0
  rw [← e]
  unfold F_ref9_CheckTable_L2
  refine loopO_find (l.take i) _ (k ()) hm ?_ ?_
  · intro kk j y hy hj
    rw [ht] at hj
    have hy' : l[j]? = some y := by rw [List.getElem?_take, if_pos hj] at hy; exact hy
    simp only [letO_eq]
    rw [lt_true hj, iteB_tr, at_ok hy', bindO_s, wrap1 (n := l.length) (Nat.lt_trans hj hi) hl]
    cases decide (y.Key = x.Key)
    · rfl
    · rfl
  · intro kk
    rw [ht]
    simp only [letO_eq, lt_self, iteB_fa]
theorem rTable_L3 (x : FleetRow) (hl : x.Events.length ≤ 9223372036854775807) (k : Unit → Option Int) : F_ref9_CheckTable_L3 x k 0 = if anyI (fun _ y => wr y) x.Events 0 = true then some 9 else k () := by
  rw [← findO_any (fun _ y => wr y) (some 9) (k ()) x.Events 0]
  unfold F_ref9_CheckTable_L3
  refine loopO_find x.Events _ (k ()) hl ?_ ?_
  · intro kk j y hy hj
    simp only [letO_eq]
    rw [lt_true hj, iteB_tr, at_ok hy, bindO_s, out9, not_out, bindO_s, wrap1 hj hl]
    show iteB (wr y) _ _ = _
    cases wr y <;> rfl
  · intro kk
    simp only [letO_eq, lt_self, iteB_fa]
theorem take_succ {l : List FleetRow} {i : Nat} {x : FleetRow} (hx : l[i]? = some x) : l.take (i + 1) = l.take i ++ [x] := by
  rw [List.take_add_one, hx]; rfl
theorem many_hid {l : List FleetRow} {i : Nat} {x : FleetRow} (hx : l[i]? = some x) (h : shn x = false) : many (l.take (i + 1)) = many (l.take i) := by
  unfold many
  rw [take_succ hx, List.find?_append]
  have : [x].find? shn = none := by simp [h]
  rw [this, Option.or_none]
theorem many_next {l : List FleetRow} {i : Nat} {x : FleetRow} (hx : l[i]? = some x) (h : shn x = true) : many (l.take (i + 1)) = if many (l.take i) < 0 then (x.Events.length : Int) else many (l.take i) := by
  unfold many
  rw [take_succ hx, List.find?_append]
  have : [x].find? shn = some x := by simp [h]
  rw [this]
  cases e : (l.take i).find? shn with
  | none => simp
  | some y =>
    show (y.Events.length : Int) = if (y.Events.length : Int) < 0 then _ else _
    rw [if_neg (by omega)]
theorem many_all {l : List FleetRow} {i : Nat} {x : FleetRow} (hx : l[i]? = some x) (h : shn x = true) : many (l.take (i + 1)) = many l := by
  have e : l.find? shn = (l.take (i + 1)).find? shn := by
    conv => lhs; rw [← List.take_append_drop (i + 1) l]
    rw [List.find?_append]
    have : ∃ y, (l.take (i + 1)).find? shn = some y := find_shn (i := i) (by rw [List.getElem?_take, if_pos (Nat.lt_succ_self i)]; exact hx) h
    obtain ⟨y, hy⟩ := this
    rw [hy]; rfl
  unfold many
  rw [e]
theorem rCheckTable_eq (l : List FleetRow) (h : okL okFleetRow l) : F_ref9_CheckTable l = tabF l := by
  unfold F_ref9_CheckTable tabF
  simp only [letO_eq, iteB_ite, joinO_eq]
  congr 1
  unfold F_ref9_CheckTable_L1
  refine loopO_findE (fun (i : Nat) => (many (l.take i), (i : Int))) l _ _ h.1 ?_ ?_
  · intro kk i x hx hi
    have ox := h.2 x (List.mem_of_getElem? hx)
    simp only [letO_eq, joinO_eq]
    rw [lt_true hi, iteB_tr, at_ok hx, bindO_s, rTable_L2 l h.1 hx, wrap1 hi h.1]
    unfold rowE
    cases anyI (fun _ y => decide (y.Key = x.Key)) (l.take i) 0
    · simp only [Bool.false_eq_true, if_false, iteB_or2]
      have e1 : iteB x.Hidden (some (decide (x.Flights ≠ 0) || decide (0 < (x.Events.length : Int)))) (some false) = some (badF x) := by unfold badF; cases x.Hidden <;> rfl
      rw [e1, bindO_s]
      cases badF x
      · simp only [iteB_fa, out9, not_out, bindO_s, rTable_L3 x ox.2.2.2.1]
        show iteB (wr x.Flights) _ _ = _
        unfold badW
        cases wr x.Flights
        · cases anyI (fun _ y => wr y) x.Events 0
          · simp only [iteB_fa, Bool.or_self, Bool.false_eq_true, if_false]
            cases hs : shn x
            · have hh : x.Hidden = true := by unfold shn at hs; simpa using hs
              rw [hh, iteB_tr, many_hid hx hs]; rfl
            · have hh : x.Hidden = false := by unfold shn at hs; simpa using hs
              rw [hh, iteB_fa, many_next hx hs, ← many_all hx hs, many_next hx hs, iteB_dec]
              by_cases c : many (l.take i) < 0
              · simp [c, bindO_s, iteB_fa]
              · simp only [c, if_false, bindO_s]
                by_cases c2 : (x.Events.length : Int) = many (l.take i)
                · simp [c2, iteB_fa]
                · simp [c2, iteB_tr]
          · rfl
        · rfl
      · rfl
    · rfl
  · intro kk
    simp only [letO_eq]; rw [lt_self]; rfl
theorem findO_zero {α : Type} (e : Nat → α → Int) : ∀ (l : List α) (i : Nat), findO (fun i x => if e i x = 0 then none else some (some (e i x))) (some 0) l i = some 0 → ∀ j x, l[j]? = some x → e (i + j) x = 0
  | [], i, _, j, x, h => by simp at h
  | y :: l, i, h, j, x, hj => by
    rw [findO] at h
    by_cases c : e i y = 0
    · simp only [c, if_true] at h
      cases j with
      | zero => simp at hj; subst hj; exact c
      | succ j =>
        have := findO_zero e l (i + 1) h j x (by simpa using hj)
        rwa [show i + 1 + j = i + (j + 1) by omega] at this
    · simp only [c, if_false] at h
      exact absurd (Option.some.inj h) c
theorem tabF_some (l : List FleetRow) : ∃ r, tabF l = some r := by
  unfold tabF
  split
  · exact ⟨_, rfl⟩
  · have : ∀ (m : List FleetRow) (i : Nat), ∃ r, findO (fun i x => if rowE l i x = 0 then none else some (some (rowE l i x))) (some 0) m i = some r := by
      intro m
      induction m with
      | nil => intro i; exact ⟨_, rfl⟩
      | cons x m ih =>
        intro i
        rw [findO]
        by_cases c : rowE l i x = 0
        · simp only [c, if_true]; exact ih (i + 1)
        · simp only [c, if_false]; exact ⟨_, rfl⟩
    exact this l 0
/-- What holds of a table without fault. -/
structure Gt (l : List FleetRow) : Prop where
  few : l.length ≤ 300
  key : ∀ (i j : Nat) (x y : FleetRow), l[i]? = some x → l[j]? = some y → i < j → x.Key ≠ y.Key
  hid : ∀ x ∈ l, x.Hidden = true → x.Flights = 0 ∧ x.Events = []
  fl : ∀ x ∈ l, 0 ≤ x.Flights ∧ x.Flights ≤ 1000000000
  ev : ∀ x ∈ l, ∀ n ∈ x.Events, 0 ≤ n ∧ n ≤ 1000000000
  same : ∀ x ∈ l, x.Hidden = false → (x.Events.length : Int) = many l
theorem gt_of {l : List FleetRow} (h : tabF l = some 0) : Gt l := by
  unfold tabF at h
  by_cases c : 300 < (l.length : Int)
  · rw [decide_eq_true c, if_pos rfl] at h; cases h
  rw [decide_eq_false c, if_neg Bool.false_ne_true] at h
  have q := findO_zero (rowE l) l 0 h
  have r : ∀ i x, l[i]? = some x → anyI (fun _ y => decide (y.Key = x.Key)) (l.take i) 0 = false ∧ badF x = false ∧ badW x = false ∧ (shn x && decide ((x.Events.length : Int) ≠ many l)) = false := by
    intro i x hx
    have h0 := q i x hx
    rw [Nat.zero_add] at h0
    unfold rowE at h0
    cases h1 : anyI (fun _ y => decide (y.Key = x.Key)) (l.take i) 0
    · rw [h1] at h0
      cases h2 : badF x
      · rw [h2] at h0
        cases h3 : badW x
        · rw [h3] at h0
          cases h4 : (shn x && decide ((x.Events.length : Int) ≠ many l))
          · exact ⟨rfl, rfl, rfl, rfl⟩
          · rw [h4] at h0; simp at h0
        · rw [h3] at h0; simp at h0
      · rw [h2] at h0; simp at h0
    · rw [h1] at h0; simp at h0
  have rm : ∀ x ∈ l, badF x = false ∧ badW x = false ∧ (shn x && decide ((x.Events.length : Int) ≠ many l)) = false := fun x hx => by
    obtain ⟨i, hi⟩ := List.getElem?_of_mem hx
    exact (r i x hi).2
  have rw_ : ∀ x ∈ l, wr x.Flights = false ∧ anyI (fun _ y => wr y) x.Events 0 = false := fun x hx => by
    have := (rm x hx).2.1
    unfold badW at this
    simpa using this
  refine ⟨by omega, fun i j x y hx hy hij e => ?_, fun x hx hh => ?_, fun x hx => wr_false.1 (rw_ x hx).1, fun x hx n hn => ?_, fun x hx hh => ?_⟩
  · have h0 := (r j y hy).1
    have : anyI (fun _ z => decide (z.Key = y.Key)) (l.take j) 0 = true := (anyI_iff _ _ _).2 ⟨i, x, by rw [List.getElem?_take, if_pos hij]; exact hx, decide_eq_true e⟩
    rw [this] at h0; cases h0
  · have := (rm x hx).1
    unfold badF at this
    rw [hh] at this
    simp only [Bool.true_and, Bool.or_eq_false_iff, decide_eq_false_iff_not] at this
    refine ⟨by have := this.1; omega, List.eq_nil_of_length_eq_zero (by have := this.2; omega)⟩
  · have h0 := (rw_ x hx).2
    cases hw : wr n with
    | false => exact wr_false.1 hw
    | true =>
      obtain ⟨j, hj⟩ := List.getElem?_of_mem hn
      have : anyI (fun _ y => wr y) x.Events 0 = true := (anyI_iff _ _ _).2 ⟨j, n, hj, hw⟩
      rw [this] at h0; cases h0
  · have := (rm x hx).2.2
    unfold shn at this
    rw [hh] at this
    simpa using this
end Go.Lf
namespace Go.Lf
section
variable {α β γ σ : Type}
theorem loopN_inv {body : (γ → Option β) → γ → Option β} (enc : Nat → σ → γ) (l : List α) (I : Nat → σ → Prop) (R : β → Prop)
    (h : ∀ k i s x, l[i]? = some x → i < l.length → I i s → ∃ s', I (i + 1) s' ∧ body k (enc i s) = k (enc (i + 1) s')) (hx : ∀ k s, I l.length s → ∃ r, body k (enc l.length s) = some r ∧ R r) :
    ∀ (d i : Nat) (s : σ) (n : Nat), i + d = l.length → d < n → I i s → ∃ r, loopN body n (enc i s) = some r ∧ R r
  | 0, i, s, n, hd, hn, hI => by
    obtain ⟨m, rfl⟩ : ∃ m, n = m + 1 := ⟨n - 1, by omega⟩
    obtain rfl : i = l.length := by omega
    rw [loopN]; exact hx _ s hI
  | d + 1, i, s, n, hd, hn, hI => by
    obtain ⟨m, rfl⟩ : ∃ m, n = m + 1 := ⟨n - 1, by omega⟩
    have hi : i < l.length := by omega
    obtain ⟨s', h1, h2⟩ := h (loopN body m) i s l[i] (List.getElem?_eq_getElem hi) hi hI
    rw [loopN, h2]
    exact loopN_inv enc l I R h hx d (i + 1) s' m (by omega) (by omega) h1
/-- A loop that keeps an invariant. -/
theorem loopO_inv {body : (γ → Option β) → γ → Option β} (enc : Nat → σ → γ) (l : List α) (I : Nat → σ → Prop) (R : β → Prop) (hl : l.length ≤ 9223372036854775807)
    (h : ∀ k i s x, l[i]? = some x → i < l.length → I i s → ∃ s', I (i + 1) s' ∧ body k (enc i s) = k (enc (i + 1) s')) (hx : ∀ k s, I l.length s → ∃ r, body k (enc l.length s) = some r ∧ R r) (s : σ) (h0 : I 0 s) :
    ∃ r, loopO body (enc 0 s) = some r ∧ R r := loopN_inv enc l I R h hx l.length 0 s FU (by omega) (FU_big hl) h0
/-- A loop that keeps an invariant, whose yield is known. -/
theorem loopO_eq {body : (γ → Option β) → γ → Option β} (enc : Nat → σ → γ) (l : List α) (I : Nat → σ → Prop) (r : β) (hl : l.length ≤ 9223372036854775807)
    (h : ∀ k i s x, l[i]? = some x → i < l.length → I i s → ∃ s', I (i + 1) s' ∧ body k (enc i s) = k (enc (i + 1) s')) (hx : ∀ k s, I l.length s → body k (enc l.length s) = some r) (s : σ) (h0 : I 0 s) :
    loopO body (enc 0 s) = some r := by
  obtain ⟨r', h1, h2⟩ := loopO_inv enc l I (fun x => x = r) hl h (fun k s hI => ⟨r, hx k s hI, rfl⟩) s h0
  rw [h1, h2]
end
theorem app1 (p q : List Int) (h : p.length + q.length ≤ 140737488355328) : app' 1 p q = some (p ++ q) := by
  unfold app'
  rw [if_pos ⟨by rw [Go.OB.maxLen_eq]; omega, by omega⟩]
theorem appN {α : Type} {n : Nat} (p q : List α) (h : (p.length + q.length) * n ≤ 140737488355328) (h1 : p.length + q.length ≤ 140737488355328) : app' n p q = some (p ++ q) := by
  unfold app'
  rw [if_pos ⟨by rw [Go.OB.maxLen_eq]; omega, h⟩]
def zadd (a b : List Int) : List Int := List.zipWith (· + ·) a b
theorem zadd_len {a b : List Int} (h : a.length = b.length) : (zadd a b).length = b.length := by unfold zadd; rw [List.length_zipWith, h]; simp
theorem zadd_get {a b : List Int} {k : Nat} {x y : Int} (hx : a[k]? = some x) (hy : b[k]? = some y) : (zadd a b)[k]? = some (x + y) := by
  unfold zadd; rw [List.getElem?_zipWith, hx, hy]
/-- The numbers of events are added one by one. -/
theorem fTotal_L2 (x : FleetRow) (b : Bool) (fl : Int) (ev : List Int) (hl : ev.length = x.Events.length) (hm : x.Events.length ≤ 9223372036854775807) (h1 : ∀ n ∈ ev, 0 ≤ n ∧ n ≤ 1000000000000) (h2 : ∀ n ∈ x.Events, 0 ≤ n ∧ n ≤ 1000000000) :
    F_fleet_Total_L2 x b fl (x.Events.length : Int) (0, ev) = some (fl, zadd ev x.Events, b) := by
  unfold F_fleet_Total_L2
  refine loopO_eq (fun (i : Nat) (s : List Int) => ((i : Int), s)) x.Events (fun j s => s.length = ev.length ∧ ∀ k : Nat, s[k]? = if k < j then (zadd ev x.Events)[k]? else ev[k]?) _ hm ?_ ?_ ev ⟨rfl, fun k => by simp⟩
  · intro kk j s y hy hj ⟨i1, i2⟩
    have hj' : j < ev.length := by omega
    have hs := i2 j
    rw [if_neg (Nat.lt_irrefl j), List.getElem?_eq_getElem hj'] at hs
    have he := h1 _ (List.getElem_mem hj')
    have hy2 := h2 y (List.mem_of_getElem? hy)
    have hz := zadd_get (List.getElem?_eq_getElem hj') hy
    generalize ev[j] = a at hs he hz
    refine ⟨s.set j (a + y), ⟨by simpa using i1, fun k => ?_⟩, ?_⟩
    · rw [List.getElem?_set]
      by_cases c : j = k
      · subst c
        rw [if_pos rfl, if_pos (by omega), if_pos (Nat.lt_succ_self j), hz]
      · rw [if_neg c, i2 k]
        by_cases c2 : k < j
        · rw [if_pos c2, if_pos (by omega)]
        · rw [if_neg c2, if_neg (by omega)]
    · simp only [letO_eq]
      have hset : set' s (j : Int) (a + y) = some (s.set j (a + y)) := by
        unfold set'; rw [if_pos ⟨by omega, by omega⟩, Int.toNat_natCast]
      rw [lt_true hj, iteB_tr, at_ok hy, bindO_s, at_ok hs, bindO_s, bindO_s, Go.OB.wrap_i64 (by omega) (by omega), hset, bindO_s, wrap1 hj hm]
  · intro kk s ⟨i1, i2⟩
    simp only [letO_eq]
    rw [lt_self, iteB_fa]
    have : s = zadd ev x.Events := by
      apply List.ext_getElem?
      intro k
      rw [i2 k]
      by_cases c : k < x.Events.length
      · rw [if_pos c]
      · rw [if_neg c, List.getElem?_eq_none (by omega), List.getElem?_eq_none (by rw [zadd_len hl]; omega)]
    rw [this]
theorem rTotal_L2a (l : List FleetRow) {i : Nat} {x : FleetRow} (hx : l[i]? = some x) (fl : Int) (ev : List Int) (hl : ev.length = x.Events.length) (hm : x.Events.length ≤ 9223372036854775807) (h1 : ∀ n ∈ ev, 0 ≤ n ∧ n ≤ 1000000000000) (h2 : ∀ n ∈ x.Events, 0 ≤ n ∧ n ≤ 1000000000) :
    F_ref9_Total_L2 l (i : Int) fl (0, ev) = some (fl, zadd ev x.Events) := by
  unfold F_ref9_Total_L2
  refine loopO_eq (fun (i : Nat) (s : List Int) => ((i : Int), s)) x.Events (fun j s => s.length = ev.length ∧ ∀ k : Nat, s[k]? = if k < j then (zadd ev x.Events)[k]? else ev[k]?) _ hm ?_ ?_ ev ⟨rfl, fun k => by simp⟩
  · intro kk j s y hy hj ⟨i1, i2⟩
    have hj' : j < ev.length := by omega
    have hs := i2 j
    rw [if_neg (Nat.lt_irrefl j), List.getElem?_eq_getElem hj'] at hs
    have he := h1 _ (List.getElem_mem hj')
    have hy2 := h2 y (List.mem_of_getElem? hy)
    have hz := zadd_get (List.getElem?_eq_getElem hj') hy
    generalize ev[j] = a at hs he hz
    refine ⟨s.set j (a + y), ⟨by simpa using i1, fun k => ?_⟩, ?_⟩
    · rw [List.getElem?_set]
      by_cases c : j = k
      · subst c
        rw [if_pos rfl, if_pos (by omega), if_pos (Nat.lt_succ_self j), hz]
      · rw [if_neg c, i2 k]
        by_cases c2 : k < j
        · rw [if_pos c2, if_pos (by omega)]
        · rw [if_neg c2, if_neg (by omega)]
    · simp only [letO_eq]
      have hset : set' s (j : Int) (a + y) = some (s.set j (a + y)) := by
        unfold set'; rw [if_pos ⟨by omega, by omega⟩, Int.toNat_natCast]
      have hne : decide ((j : Int) = (s.length : Int)) = false := decide_eq_false (by omega)
      rw [at_ok hx, bindO_s, lt_true hj, iteB_tr, hne, iteB_fa, bindO_s, at_ok hs, bindO_s, bindO_s, at_ok hy, bindO_s, bindO_s, Go.OB.wrap_i64 (by omega) (by omega), hset, bindO_s, wrap1 hj hm]
  · intro kk s ⟨i1, i2⟩
    simp only [letO_eq]
    rw [at_ok hx, bindO_s, lt_self, iteB_fa]
    have : s = zadd ev x.Events := by
      apply List.ext_getElem?
      intro k
      rw [i2 k]
      by_cases c : k < x.Events.length
      · rw [if_pos c]
      · rw [if_neg c, List.getElem?_eq_none (by omega), List.getElem?_eq_none (by rw [zadd_len hl]; omega)]
    rw [this]
theorem rTotal_L2b (l : List FleetRow) {i : Nat} {x : FleetRow} (hx : l[i]? = some x) (fl : Int) (hm : x.Events.length ≤ 1048576) (h2 : ∀ n ∈ x.Events, 0 ≤ n ∧ n ≤ 1000000000) :
    F_ref9_Total_L2 l (i : Int) fl (0, []) = some (fl, x.Events) := by
  unfold F_ref9_Total_L2
  refine loopO_eq (fun (i : Nat) (s : List Int) => ((i : Int), s)) x.Events (fun j s => s = x.Events.take j) _ (by omega) ?_ ?_ [] (by simp)
  · intro kk j s y hy hj hI
    have hsl : s.length = j := by rw [hI, List.length_take]; omega
    have hy2 := h2 y (List.mem_of_getElem? hy)
    refine ⟨x.Events.take (j + 1), rfl, ?_⟩
    have e : x.Events.take (j + 1) = s ++ [y] := by rw [List.take_add_one, hy, hI]; rfl
    rw [e]
    simp only [letO_eq]
    have heq : decide ((j : Int) = (s.length : Int)) = true := decide_eq_true (by omega)
    have hg : (s ++ [(0 : Int)])[j]? = some 0 := by rw [List.getElem?_append_right (by omega), hsl]; simp
    have hset : set' (s ++ [(0 : Int)]) (j : Int) y = some (s ++ [y]) := by
      unfold set'
      rw [if_pos ⟨by omega, by simp; omega⟩, Int.toNat_natCast, List.set_append_right _ _ (by omega), hsl]
      simp
    rw [at_ok hx, bindO_s, lt_true hj, iteB_tr, heq, iteB_tr, appN s [0] (by simp; omega) (by simp; omega), bindO_s, bindO_s, at_ok hg, bindO_s, bindO_s, at_ok hy, bindO_s, bindO_s, Int.zero_add, Go.OB.wrap_i64 (by omega) (by omega), hset, bindO_s, wrap1 hj (by omega)]
  · intro kk s hI
    simp only [letO_eq]
    rw [at_ok hx, bindO_s, lt_self, iteB_fa, hI, List.take_length]
end Go.Lf
namespace Go.Lf
def stp (s : Int × List Int × Bool) (x : FleetRow) : Int × List Int × Bool := if x.Hidden = true then s else (s.1 + x.Flights, if s.2.2 = true then x.Events else zadd s.2.1 x.Events, false)
def sum_ (l : List FleetRow) (i : Nat) : Int × List Int × Bool := (l.take i).foldl stp (0, [], true)
theorem sum_next {l : List FleetRow} {i : Nat} {x : FleetRow} (hx : l[i]? = some x) : sum_ l (i + 1) = stp (sum_ l i) x := by
  unfold sum_
  rw [take_succ hx, List.foldl_append]; rfl
/-- What is known of the sums of the first rows. -/
structure Gs (l : List FleetRow) (i : Nat) (s : Int × List Int × Bool) : Prop where
  fl : 0 ≤ s.1 ∧ s.1 ≤ 1000000000 * (i : Int)
  ev : ∀ n ∈ s.2.1, 0 ≤ n ∧ n ≤ 1000000000 * (i : Int)
  nil : s.2.2 = true → s.2.1 = []
  len : s.2.2 = false → (s.2.1.length : Int) = many l
theorem zadd_mem {a b : List Int} {n : Int} (h : n ∈ zadd a b) : ∃ x ∈ a, ∃ y ∈ b, n = x + y := by
  unfold zadd at h
  obtain ⟨i, hi⟩ := List.getElem?_of_mem h
  rw [List.getElem?_zipWith] at hi
  cases ha : a[i]? with
  | none => rw [ha] at hi; simp at hi
  | some x =>
    cases hb : b[i]? with
    | none => rw [ha, hb] at hi; simp at hi
    | some y =>
      rw [ha, hb] at hi
      exact ⟨x, List.mem_of_getElem? ha, y, List.mem_of_getElem? hb, (Option.some.inj hi).symm⟩
theorem gs_next {l : List FleetRow} (g : Gt l) {i : Nat} {x : FleetRow} (hx : l[i]? = some x) {s : Int × List Int × Bool} (h : Gs l i s) : Gs l (i + 1) (stp s x) := by
  have hm := List.mem_of_getElem? hx
  unfold stp
  cases hh : x.Hidden with
  | true =>
    rw [if_pos rfl]
    refine ⟨?_, fun n hn => ?_, h.nil, h.len⟩
    · have := h.fl; omega
    · have := h.ev n hn; omega
  | false =>
    rw [if_neg Bool.false_ne_true]
    have hl := g.same x hm hh
    have hf := g.fl x hm
    refine ⟨?_, fun n hn => ?_, fun h' => by simp at h', fun _ => ?_⟩
    · have := h.fl; simp only []; omega
    · simp only [] at hn
      cases hb : s.2.2 with
      | true =>
        rw [hb, if_pos rfl] at hn
        have := g.ev x hm n hn; omega
      | false =>
        rw [hb, if_neg Bool.false_ne_true] at hn
        obtain ⟨a, ha, b, hb', rfl⟩ := zadd_mem hn
        have := h.ev a ha
        have := g.ev x hm b hb'
        omega
    · simp only []
      cases hb : s.2.2 with
      | true => rw [if_pos rfl]; exact hl
      | false =>
        rw [if_neg Bool.false_ne_true, zadd_len (by have := h.len hb; omega)]; exact hl
theorem gs_all {l : List FleetRow} (g : Gt l) : ∀ (i : Nat), i ≤ l.length → Gs l i (sum_ l i)
  | 0, _ => ⟨⟨Int.le_refl _, by simp [sum_]⟩, fun n hn => by simp [sum_] at hn, fun _ => rfl, fun h => by simp [sum_] at h⟩
  | i + 1, h => by
    have hx := List.getElem?_eq_getElem (show i < l.length by omega)
    rw [sum_next hx]
    exact gs_next g hx (gs_all g i (by omega))
theorem zadd_zero : ∀ (l : List Int), zadd (List.replicate l.length 0) l = l
  | [] => rfl
  | x :: l => by
    have ih := zadd_zero l
    unfold zadd at ih ⊢
    rw [List.length_cons, List.replicate_succ, List.zipWith_cons_cons, ih, Int.zero_add]
theorem fTotal_L1 {l : List FleetRow} (g : Gt l) (hE : ∀ x ∈ l, x.Events.length ≤ 1048576) : F_fleet_Total_L1 l (l.length : Int) (0, 0, [], true) = some (sum_ l l.length) := by
  have hf := g.few
  unfold F_fleet_Total_L1
  refine loopO_eq (fun (i : Nat) (s : Int × List Int × Bool) => ((i : Int), s.1, s.2.1, s.2.2)) l (fun i s => s = sum_ l i) _ (by omega) ?_ ?_ (0, [], true) rfl
  · intro kk i s x hx hi hI
    have hm := List.mem_of_getElem? hx
    have gs := gs_all g i (by omega)
    rw [← hI] at gs
    refine ⟨stp s x, by rw [hI, sum_next hx], ?_⟩
    simp only [letO_eq]
    rw [lt_true hi, iteB_tr, at_ok hx, bindO_s, wrap1 hi (by omega)]
    unfold stp
    cases hh : x.Hidden with
    | true => rw [iteB_tr, bindO_s, if_pos rfl]
    | false =>
      rw [iteB_fa, if_neg Bool.false_ne_true]
      have hl := g.same x hm hh
      have hfl := g.fl x hm
      have hEx := hE x hm
      have f1 := gs.fl
      have f2 := gs.ev
      have f4 := gs.len
      obtain ⟨fl, ev, b⟩ := s
      simp only [] at f1 f2 f4 ⊢
      cases b with
      | true =>
        have hmk : make' 8 (x.Events.length : Int) (0 : Int) = some (List.replicate x.Events.length 0) := by
          unfold make'; rw [if_pos ⟨by omega, by rw [Int.toNat_natCast]; omega, by omega⟩, Int.toNat_natCast]
        rw [iteB_tr, hmk, bindO_s, bindO_s, if_pos rfl]
        simp only []
        rw [fTotal_L2 x false _ (List.replicate x.Events.length 0) (by simp) (by omega) (fun n hn => by have := List.eq_of_mem_replicate hn; omega) (g.ev x hm), bindO_s, zadd_zero, Go.OB.wrap_i64 (by omega) (by omega)]
      | false =>
        have hl2 := f4 rfl
        rw [iteB_fa, bindO_s, if_neg Bool.false_ne_true]
        simp only []
        rw [fTotal_L2 x false _ ev (by omega) (by omega) (fun n hn => by have := f2 n hn; omega) (g.ev x hm), bindO_s, Go.OB.wrap_i64 (by omega) (by omega)]
  · intro kk s hI
    simp only [letO_eq]
    rw [lt_self, iteB_fa, hI]
theorem rTotal_L1 {l : List FleetRow} (g : Gt l) (hE : ∀ x ∈ l, x.Events.length ≤ 1048576) : F_ref9_Total_L1 l (0, 0, []) = some ((sum_ l l.length).1, (sum_ l l.length).2.1) := by
  have hf := g.few
  unfold F_ref9_Total_L1
  refine loopO_eq (fun (i : Nat) (s : Int × List Int) => ((i : Int), s.1, s.2)) l (fun i s => s = ((sum_ l i).1, (sum_ l i).2.1)) _ (by omega) ?_ ?_ (0, []) rfl
  · intro kk i s x hx hi hI
    have hm := List.mem_of_getElem? hx
    have gs := gs_all g i (by omega)
    refine ⟨((sum_ l (i + 1)).1, (sum_ l (i + 1)).2.1), rfl, ?_⟩
    rw [hI, sum_next hx]
    generalize sum_ l i = t at gs ⊢
    simp only [letO_eq]
    rw [lt_true hi, iteB_tr, at_ok hx, bindO_s, wrap1 hi (by omega)]
    unfold stp
    cases hh : x.Hidden with
    | true => rw [iteB_tr, bindO_s, if_pos rfl]
    | false =>
      rw [iteB_fa, if_neg Bool.false_ne_true, bindO_s]
      have hl := g.same x hm hh
      have hfl := g.fl x hm
      have hEx := hE x hm
      have f1 := gs.fl
      have f2 := gs.ev
      have f3 := gs.nil
      have f4 := gs.len
      obtain ⟨fl, ev, b⟩ := t
      simp only [] at f1 f2 f3 f4 ⊢
      cases b with
      | true =>
        rw [f3 rfl, rTotal_L2b l hx _ hEx (g.ev x hm), bindO_s, if_pos rfl, Go.OB.wrap_i64 (by omega) (by omega)]
      | false =>
        have hl2 := f4 rfl
        rw [rTotal_L2a l hx _ ev (by omega) (by omega) (fun n hn => by have := f2 n hn; omega) (g.ev x hm), bindO_s, if_neg Bool.false_ne_true, Go.OB.wrap_i64 (by omega) (by omega)]
  · intro kk s hI
    simp only [letO_eq]
    rw [lt_self, iteB_fa, hI]
/-- The total of a table. -/
def tot (l : List FleetRow) : FleetRow := FleetRow.mk [] false (sum_ l l.length).1 (sum_ l l.length).2.1
theorem Total_eq {l : List FleetRow} (h : okL okFleetRow l) (hE : ∀ x ∈ l, x.Events.length ≤ 1048576) {c : Int} (hc : tabF l = some c) :
    F_fleet_Total l = some (if c = 0 then tot l else FleetRow.mk [] false 0 [], c) ∧ F_ref9_Total l = some (if c = 0 then tot l else FleetRow.mk [] false 0 [], c) := by
  unfold F_fleet_Total F_ref9_Total
  rw [CheckTable_eq l h, rCheckTable_eq l h, hc]
  simp only [bindO_s, letO_eq]
  by_cases c0 : c = 0
  · subst c0
    have g := gt_of hc
    rw [fTotal_L1 g hE, rTotal_L1 g hE]
    exact ⟨rfl, rfl⟩
  · rw [decide_eq_true c0, iteB_tr, iteB_tr, if_neg c0]
    exact ⟨rfl, rfl⟩
theorem tot_len {l : List FleetRow} (g : Gt l) (hE : ∀ x ∈ l, x.Events.length ≤ 1048576) : (tot l).Events.length ≤ 1048576 := by
  have gs := gs_all g l.length (Nat.le_refl _)
  unfold tot
  cases hb : (sum_ l l.length).2.2 with
  | true => rw [gs.nil hb]; simp
  | false =>
    have := gs.len hb
    unfold many at this
    cases e : l.find? shn with
    | none =>
      rw [e] at this
      have this : ((sum_ l l.length).2.1.length : Int) = -1 := this
      omega
    | some y =>
      rw [e] at this
      have h2 := hE y (List.mem_of_find?_eq_some e)
      have this : ((sum_ l l.length).2.1.length : Int) = (y.Events.length : Int) := this
      show (sum_ l l.length).2.1.length ≤ _
      omega
end Go.Lf
