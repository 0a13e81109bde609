/- Masks with one grain. -/
import Derived.Test.YtbjhondbheijiaaPn5
namespace Go.Lf
/-- A number's grain. -/
def co (n N : Int) : Int := max (N - N % n) (-1125899906842624)
theorem tm_neg (N n : Int) (hn : 1 ≤ n) : (if N.tmod n < 0 then N.tmod n + n else N.tmod n) = N % n := by
  have h1 := Int.emod_nonneg N (b := n) (by omega)
  have h2 := Int.emod_lt_of_pos N (b := n) (by omega)
  rw [Int.tmod_eq_emod]
  have e : (n.natAbs : Int) = n := Int.natAbs_of_nonneg (by omega)
  by_cases h : 0 ≤ N ∨ n ∣ N
  · rw [if_pos h]; split <;> omega
  · rw [if_neg h]
    have : N % n ≠ 0 := by
      intro q; exact h (.inr (Int.dvd_of_emod_eq_zero q))
    split <;> omega
theorem coarse_eq (N n : Int) (hN : -1125899906842624 ≤ N ∧ N ≤ 1125899906842624) (hn : 1 ≤ n ∧ n ≤ 1125899906842624) : F_fleet_coarse N n = some (co n N) := by
  have h1 := Int.emod_nonneg N (b := n) (by omega)
  have h2 := Int.emod_lt_of_pos N (b := n) (by omega)
  have t := tm_neg N n hn.1
  unfold F_fleet_coarse rem' co
  rw [if_neg (by omega), bindO_s]
  simp only [letO_eq, iteB_dec]
  have hr : (if N.tmod n < 0 then some (IntKind.i64.wrap (N.tmod n + n)) else some (N.tmod n)) = some (N % n) := by
    by_cases c : N.tmod n < 0
    · rw [if_pos c] at t ⊢
      rw [Go.OB.wrap_i64 (by omega) (by omega), t]
    · rw [if_neg c] at t ⊢
      rw [t]
  rw [hr, bindO_s, Go.OB.wrap_i64 (by omega) (by omega)]
theorem co_mono {n a b : Int} (hn : 1 ≤ n) (h : a ≤ b) : co n a ≤ co n b := by
  unfold co
  have e1 := Int.emod_add_mul_ediv a n
  have e2 := Int.emod_add_mul_ediv b n
  have := Int.ediv_le_ediv (show (0 : Int) < n by omega) h
  have := Int.mul_le_mul_of_nonneg_left this (show (0 : Int) ≤ n by omega)
  omega
theorem co_rng {n N : Int} (hN : -1125899906842624 ≤ N ∧ N ≤ 1125899906842624) (hn : 1 ≤ n) : -1125899906842624 ≤ co n N ∧ co n N ≤ 1125899906842624 := by
  have h1 := Int.emod_nonneg N (b := n) (by omega)
  unfold co; omega
/-- A sample under a grain. -/
def cs (n : Int) (x : Sample) : Sample := if decide (2 ≤ x.Mark) then ⟨x.At, co n x.N, x.Mark⟩ else x
def mt (s : Str) (n : Int) (t : Track) : Track := ⟨t.Name, ⟨t.Series.Den, if decide (t.Name ≠ s) then t.Series.Samples else t.Series.Samples.map (cs n)⟩, t.Long⟩
def mf (f : Flight) (s : Str) (n : Int) : Flight := ⟨f.Tail, f.Route, f.Day, f.From, f.To, f.Tracks.map (mt s n)⟩
theorem checkNames0 : F_fleet_checkNames [] = some 0 := by
  unfold F_fleet_checkNames
  simp only [letO_eq, joinO_eq]
  rw [show decide ((30 : Int) < (([] : List Str).length : Int)) = false by decide, iteB_fa]
  unfold F_fleet_checkNames_L1
  refine (loopO_find ([] : List Str) (fun _ _ => none) (some 0) (by decide) ?_ ?_).trans rfl
  · intro kk i x hx _; simp at hx
  · intro kk; simp only [letO_eq]; rw [lt_self]; rfl
theorem contains0 (s : Str) : F_slices_Contains___string_string_ [] s = some false := by
  have e : F_slices_Index___string_string_ [] s = some (-1) := by
    unfold F_slices_Index___string_string_
    simp only [letO_eq, joinO_eq]
    unfold F_slices_Index___string_string__L1
    refine (loopO_find ([] : List Str) (fun _ _ => none) (some (-1)) (by decide) ?_ ?_).trans rfl
    · intro kk i x hx _; simp at hx
    · intro kk; simp only [letO_eq]; rw [lt_self]; rfl
  unfold F_slices_Contains___string_string_
  rw [e]
  simp [letO, bindO]
theorem contG0 (g : Grain) : F_slices_ContainsFunc___api_Grain_api_Grain__fleet_CheckMask_1 [] g = some false := by
  have e : F_slices_IndexFunc___api_Grain_api_Grain__fleet_CheckMask_1 [] g = some (-1) := by
    unfold F_slices_IndexFunc___api_Grain_api_Grain__fleet_CheckMask_1
    simp only [letO_eq, joinO_eq]
    unfold F_slices_IndexFunc___api_Grain_api_Grain__fleet_CheckMask_1_L1
    refine (loopO_find ([] : List Grain) (fun _ _ => none) (some (-1)) (by decide) ?_ ?_).trans rfl
    · intro kk i x hx _; simp at hx
    · intro kk; simp only [letO_eq]; rw [lt_self]; rfl
  unfold F_slices_ContainsFunc___api_Grain_api_Grain__fleet_CheckMask_1
  rw [e]
  simp [letO, bindO]
def m1 (s : Str) (n : Int) : Mask := Mask.mk false 1 [] [Grain.mk s n] 1
theorem CheckMask1 (s : Str) (n : Int) (hs : okS s) : F_fleet_CheckMask (m1 s n) = some (if !isNm s then 8 else if !(decide (1 ≤ n) && decide (n ≤ 1125899906842624)) then 9 else 0) := by
  unfold F_fleet_CheckMask m1
  simp only [letO_eq, joinO_eq, fwithin, bindO_s, checkNames0]
  rw [show (!(decide ((1 : Int) ≤ 1) && decide ((1 : Int) ≤ 1000000))) = false by decide, iteB_fa, show decide ((0 : Int) ≠ 0) = false by decide, iteB_fa, show (!(decide ((1 : Int) ≤ 1) && decide ((1 : Int) ≤ 1000))) = false by decide, iteB_fa,
    show decide ((30 : Int) < (([Grain.mk s n] : List Grain).length : Int)) = false by simp, iteB_fa]
  unfold F_fleet_CheckMask_L1
  refine (loopO_find ([Grain.mk s n] : List Grain) (fun _ x => if isNm s = true then (if (decide (1 ≤ n) && decide (n ≤ 1125899906842624)) = true then none else some (some 9)) else some (some 8)) (some 0) (by simp) ?_ ?_).trans ?_
  · intro kk i x hx hi
    have hi0 : i = 0 := by simp at hi; omega
    subst hi0
    simp at hx
    subst hx
    simp only [letO_eq]
    rw [lt_true hi, iteB_tr, show at' ([Grain.mk s n] : List Grain) ((0 : Nat) : Int) = some (Grain.mk s n) from rfl, bindO_s, IsName_eq s hs, bindO_s, wrap1 hi (by simp), show sub' ([Grain.mk s n] : List Grain) 0 ((0 : Nat) : Int) = some [] from rfl]
    simp only [bindO_s, contG0, fwithin, iteB_fa]
    cases isNm s
    · rfl
    · cases (decide (1 ≤ n) && decide (n ≤ 1125899906842624)) <;> rfl
  · intro kk; simp only [letO_eq]; rw [lt_self]; rfl
  · cases isNm s
    · rfl
    · cases (decide (1 ≤ n) && decide (n ≤ 1125899906842624)) <;> rfl
theorem clone_eq (l : List Sample) (h : l.length ≤ 20000) : F_slices_Clone___api_Sample_api_Sample_ l = some l := by
  have e : app' 24 ([] : List Sample) l = some l := by
    unfold app'
    rw [if_pos]
    · rfl
    · constructor
      · simp [maxLen]; omega
      · simp; omega
  unfold F_slices_Clone___api_Sample_api_Sample_ nilO
  rw [e]
  simp only [bindO_s, iteB_tr, iteB_fa]
  cases l <;> simp
theorem masked_L3 (s : Str) (n : Int) (hn : 1 ≤ n ∧ n ≤ 1125899906842624) (l : List Sample) (hl : l.length ≤ 20000) (hN : ∀ x ∈ l, -1125899906842624 ≤ x.N ∧ x.N ≤ 1125899906842624) :
    F_fleet_masked_L3 (Grain.mk s n) (l.length : Int) (0, l) = some (l.map (cs n)) := by
  unfold F_fleet_masked_L3
  refine loopO_at (fun i => ((i : Int), (l.take i).map (cs n) ++ l.drop i)) l (some (l.map (cs n))) (by omega) ?_ ?_
  · intro kk i x hx hi
    have hlen : ((l.take i).map (cs n)).length = i := by simp; omega
    have hat : at' ((l.take i).map (cs n) ++ l.drop i) (i : Int) = some x := by
      rw [at_nat, List.getElem?_append_right (by omega), hlen, Nat.sub_self, List.getElem?_drop, Nat.add_zero, hx]
    have hd : l.drop i = x :: l.drop (i + 1) := by rw [List.drop_eq_getElem_cons hi]; congr 1; rw [List.getElem?_eq_getElem hi] at hx; exact Option.some.inj hx
    have ht : l.take (i + 1) = l.take i ++ [x] := by rw [List.take_add_one, hx]; rfl
    simp only [letO_eq]
    rw [lt_true hi, iteB_tr, hat]
    simp only [bindO_s]
    rw [wrap1 hi (by omega), ht, List.map_append, List.append_assoc]
    have hc : cs n x = if decide (2 ≤ x.Mark) then ⟨x.At, co n x.N, x.Mark⟩ else x := rfl
    have hset : set' ((l.take i).map (cs n) ++ l.drop i) (i : Int) (Sample.mk x.At (co n x.N) x.Mark) = some ((l.take i).map (cs n) ++ Sample.mk x.At (co n x.N) x.Mark :: l.drop (i + 1)) := by
      unfold set'
      rw [if_pos (by simp; omega), Int.toNat_natCast, hd, List.set_append_right _ _ (by omega), hlen, Nat.sub_self]; rfl
    rw [coarse_eq x.N n (hN x (List.mem_of_getElem? hx)) hn]
    simp only [bindO_s]
    rw [hset]
    cases hq : decide (2 ≤ x.Mark)
    · rw [iteB_fa, bindO_s, hd]
      have : cs n x = x := by rw [hc, hq]; rfl
      simp [this]
    · rw [iteB_tr, bindO_s, bindO_s]
      have : cs n x = ⟨x.At, co n x.N, x.Mark⟩ := by rw [hc, hq]; rfl
      simp [this]
  · intro kk; simp only [letO_eq]; rw [lt_self]; simp [iteB]
theorem masked_L2 (s : Str) (n : Int) (hn : 1 ≤ n ∧ n ≤ 1125899906842624) (t : Track) (hl : t.Series.Samples.length ≤ 20000) (hN : ∀ x ∈ t.Series.Samples, -1125899906842624 ≤ x.N ∧ x.N ≤ 1125899906842624) :
    F_fleet_masked_L2 (m1 s n) t 1 (0, t.Series.Samples) = some (mt s n t).Series.Samples := by
  unfold F_fleet_masked_L2
  refine loopO_at (fun (i : Nat) => ((i : Int), if i = 0 then t.Series.Samples else (mt s n t).Series.Samples)) [Grain.mk s n] (some (mt s n t).Series.Samples) (by simp) ?_ ?_
  · intro kk i x hx hi
    have hi0 : i = 0 := by simp at hi; omega
    subst hi0
    simp at hx
    subst hx
    simp only [letO_eq, m1]
    rw [show decide (((0 : Nat) : Int) < 1) = true by decide, iteB_tr, show at' ([Grain.mk s n] : List Grain) ((0 : Nat) : Int) = some (Grain.mk s n) from rfl, bindO_s, wrap1 hi (by simp), if_pos (trivial : True), if_neg (by omega), masked_L3 s n hn _ hl hN]
    unfold mt
    by_cases e : t.Name = s
    · simp [e, iteB, bindO]
    · have e2 : s ≠ t.Name := fun q => e q.symm
      simp [e, e2, iteB, bindO]
  · intro kk; simp only [letO_eq]; exact (congrArg (fun b => iteB b _ _) (lt_self 1)).trans rfl
theorem masked_eq (f : Flight) (s : Str) (n : Int) (hn : 1 ≤ n ∧ n ≤ 1125899906842624) (hl : f.Tracks.length ≤ 30) (hT : ∀ t ∈ f.Tracks, t.Series.Samples.length ≤ 20000 ∧ ∀ x ∈ t.Series.Samples, -1125899906842624 ≤ x.N ∧ x.N ≤ 1125899906842624)
    (hd : i64 f.Day) : F_fleet_masked f (m1 s n) = some (mf f s n) := by
  have e : F_fleet_masked_L1 f (m1 s n) (f.Tracks.length : Int) ([], 0) = some (f.Tracks.map (mt s n)) := by
    unfold F_fleet_masked_L1
    refine loopO_at (fun (i : Nat) => ((f.Tracks.take i).map (mt s n), (i : Int))) f.Tracks (some (f.Tracks.map (mt s n))) (by omega) ?_ ?_
    · intro kk i x hx hi
      obtain ⟨h1, h2⟩ := hT x (List.mem_of_getElem? hx)
      have ht : f.Tracks.take (i + 1) = f.Tracks.take i ++ [x] := by rw [List.take_add_one, hx]; rfl
      have ha : app' 56 ((f.Tracks.take i).map (mt s n)) [Track.mk x.Name (Series.mk x.Series.Den (mt s n x).Series.Samples) x.Long] = some ((f.Tracks.take (i + 1)).map (mt s n)) := by
        unfold app'
        rw [if_pos, ht]
        · simp [mt]
        · simp [maxLen]; omega
      simp only [letO_eq]
      rw [lt_true hi, iteB_tr, at_ok hx, bindO_s, show (m1 s n).Hide = [] from rfl, contains0, bindO_s, iteB_fa, clone_eq _ h1, bindO_s, show (((m1 s n).Grains.length : Nat) : Int) = 1 from rfl, masked_L2 s n hn x h1 h2, bindO_s, ha, bindO_s, bindO_s, wrap1 hi (by omega)]
    · intro kk; simp only [letO_eq]; rw [lt_self]; simp [iteB]
  unfold F_fleet_masked
  simp only [letO_eq, bindO_s]
  rw [e, show (m1 s n).Tails = false from rfl, show (m1 s n).Days = 1 from rfl]
  unfold rem'
  rw [if_neg (by decide), iteB_fa]
  simp only [bindO_s]
  have hw : IntKind.i64.wrap (f.Day - f.Day.tmod 1) = f.Day := by
    rw [Int.tmod_one, Int.sub_zero]; unfold i64 at hd; exact Go.OB.wrap_i64 hd.1 (by omega)
  rw [hw]; rfl
end Go.Lf
