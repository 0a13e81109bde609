/- The masked flight is without fault, and its peak is the grain of the peak. -/
import Derived.Test.YtbjhondbheijiaaPn6
namespace Go.Lf
theorem cs_at (n : Int) (x : Sample) : (cs n x).At = x.At ∧ (cs n x).Mark = x.Mark := by unfold cs; split <;> exact ⟨rfl, rfl⟩
theorem cs_n (n : Int) (x : Sample) : (cs n x).N = if 2 ≤ x.Mark then co n x.N else x.N := by unfold cs; by_cases h : 2 ≤ x.Mark <;> simp [h]
theorem smpE_iff (l : List Sample) (i : Nat) (x : Sample) : smpE l i x = 0 ↔ (0 ≤ x.At ∧ x.At ≤ 1099511627776) ∧ (-1125899906842624 ≤ x.N ∧ x.N ≤ 1125899906842624) ∧ (0 ≤ x.Mark ∧ x.Mark ≤ 4) ∧ (x.N = 0 ∨ 2 ≤ x.Mark) ∧ (∀ j y, i = j + 1 → l[j]? = some y → y.At < x.At) := by
  unfold smpE
  split
  · rename_i h
    simp only [Bool.or_eq_true, Bool.not_eq_true', Bool.and_eq_false_iff, decide_eq_false_iff_not] at h
    constructor
    · intro q; cases q
    · intro q; omega
  · rename_i h
    simp only [Bool.or_eq_true, Bool.not_eq_true', Bool.and_eq_false_iff, decide_eq_false_iff_not] at h
    split
    · rename_i h2
      simp only [Bool.and_eq_true, decide_eq_true_eq] at h2
      constructor
      · intro q; cases q
      · intro q; omega
    · rename_i h2
      simp only [Bool.and_eq_true, decide_eq_true_eq] at h2
      cases i with
      | zero =>
        simp only [true_iff]
        exact ⟨by omega, by omega, by omega, by omega, fun j y hj => by omega⟩
      | succ j =>
        cases e : l[j]? with
        | none =>
          simp only [e, true_iff]
          refine ⟨by omega, by omega, by omega, by omega, ?_⟩
          intro j' y hj hy
          obtain rfl : j' = j := by omega
          rw [e] at hy; cases hy
        | some y =>
          simp only [e, decide_eq_true_eq]
          constructor
          · intro q
            by_cases c : x.At ≤ y.At
            · rw [if_pos c] at q; cases q
            · refine ⟨by omega, by omega, by omega, by omega, ?_⟩
              intro j' z hj hz
              obtain rfl : j' = j := by omega
              rw [e] at hz; cases hz; omega
          · rintro ⟨_, _, _, _, q⟩
            have := q j y rfl e
            rw [if_neg (by omega)]
theorem ser_mask {d : Int} {l : List Sample} {n : Int} (hn : 1 ≤ n) (h : serC ⟨d, l⟩ = 0) : serC ⟨d, l.map (cs n)⟩ = 0 := by
  rw [ser_iff] at h ⊢
  obtain ⟨h1, h2, h3⟩ := h
  refine ⟨h1, by simpa using h2, ?_⟩
  intro i x hx
  simp only [List.getElem?_map, Option.map_eq_some_iff] at hx
  obtain ⟨y, hy, rfl⟩ := hx
  have := (smpE_iff _ _ _).1 (h3 i y hy)
  obtain ⟨q1, q2, q3, q4, q5⟩ := this
  obtain ⟨c1, c2⟩ := cs_at n y
  rw [smpE_iff, c1, c2, cs_n]
  have r := co_rng q2 hn
  refine ⟨q1, ?_, q3, ?_, ?_⟩
  · split <;> omega
  · by_cases c : 2 ≤ y.Mark
    · exact .inr c
    · rw [if_neg c]; omega
  · intro j z hj hz
    simp only [List.getElem?_map, Option.map_eq_some_iff] at hz
    obtain ⟨z', hz', rfl⟩ := hz
    rw [(cs_at n z').1]
    exact q5 j z' hj hz'
theorem trk_mask {l : List Track} {s : Str} {n : Int} (hn : 1 ≤ n) (h : trkC l = 0) : trkC (l.map (mt s n)) = 0 := by
  rw [trk_iff] at h ⊢
  refine ⟨by simpa using h.1, ?_⟩
  intro i x hx
  simp only [List.getElem?_map, Option.map_eq_some_iff] at hx
  obtain ⟨y, hy, rfl⟩ := hx
  obtain ⟨q1, q2, q3, q4⟩ := (trkE_iff l i y).1 (h.2 i y hy)
  rw [trkE_iff]
  refine ⟨q1, ?_, ?_, q4⟩
  · rw [← q2, Bool.eq_iff_iff, anyI_iff, anyI_iff, ← List.map_take]
    constructor
    · rintro ⟨j, z, h1, h2⟩
      simp only [List.getElem?_map, Option.map_eq_some_iff] at h1
      obtain ⟨u, hu, rfl⟩ := h1
      exact ⟨j, u, hu, h2⟩
    · rintro ⟨j, z, h1, h2⟩
      exact ⟨j, mt s n z, by simp only [List.getElem?_map, h1, Option.map_some], h2⟩
  · unfold mt
    split
    · exact q3
    · exact ser_mask hn q3
theorem good_mask {f : Flight} {s : Str} {n : Int} (hn : 1 ≤ n) (g : Good f) : Good (mf f s n) :=
  ⟨g.tail, g.route, g.day, g.frm, g.span, by have := g.many; simpa [mf] using this, trk_mask hn g.trk⟩
theorem cs_i64 {n : Int} {x : Sample} (hn : 1 ≤ n) (hN : -1125899906842624 ≤ x.N ∧ x.N ≤ 1125899906842624) (h : okSample x) : okSample (cs n x) := by
  obtain ⟨c1, c2⟩ := cs_at n x
  have r := co_rng hN hn
  refine ⟨by rw [c1]; exact h.1, ?_, by rw [c2]; exact h.2.2⟩
  rw [cs_n]; unfold i64; split <;> omega
/-- What a track without fault holds. -/
theorem trk_facts {l : List Track} (h : trkC l = 0) {t : Track} (ht : t ∈ l) : t.Series.Samples.length ≤ 20000 ∧ ∀ x ∈ t.Series.Samples, -1125899906842624 ≤ x.N ∧ x.N ≤ 1125899906842624 := by
  obtain ⟨i, hi⟩ := List.getElem?_of_mem ht
  have q := ((trkE_iff l i t).1 (((trk_iff l).1 h).2 i t hi)).2.2.1
  rw [ser_iff] at q
  refine ⟨q.2.1, fun x hx => ?_⟩
  obtain ⟨j, hj⟩ := List.getElem?_of_mem hx
  exact ((smpE_iff _ _ _).1 (q.2.2 j x hj)).2.1
theorem ok_mask {f : Flight} {s : Str} {n : Int} (hn : 1 ≤ n) (g : Good f) (h : okFlight f) : okFlight (mf f s n) := by
  obtain ⟨h1, h2, h3, h4, h5, h6, h7⟩ := h
  refine ⟨h1, h2, h3, h4, h5, by simpa [mf] using h6, ?_⟩
  intro t ht
  simp only [mf, List.mem_map] at ht
  obtain ⟨u, hu, rfl⟩ := ht
  obtain ⟨q1, ⟨q2, q3, q4⟩, q5⟩ := h7 u hu
  obtain ⟨r1, r2⟩ := trk_facts g.trk hu
  refine ⟨q1, ⟨q2, ?_, ?_⟩, q5⟩
  · show (if _ then _ else _ : List Sample).length ≤ _
    split
    · exact q3
    · rw [List.length_map]; exact q3
  · intro x hx
    simp only [mt] at hx
    split at hx
    · exact q4 x hx
    · obtain ⟨y, hy, rfl⟩ := List.mem_map.1 hx
      exact cs_i64 hn (r2 y hy) (q4 y hy)
/-! ### The peak of the masked flight -/
def cp (n : Int) (b : Int × Bool) : Int × Bool := if b.2 then (co n b.1, true) else b
theorem pk_cs (f : Flight) {n : Int} (hn : 1 ≤ n) (b : Int × Bool) (x : Sample) : pk f (cp n b) (cs n x) = cp n (pk f b x) := by
  obtain ⟨c1, c2⟩ := cs_at n x
  unfold pk
  rw [c1, c2]
  by_cases hc : (decide (x.Mark < 3) || !(decide (64 * f.From ≤ x.At) && decide (x.At ≤ 64 * f.To + 63))) = true
  · rw [if_pos hc, if_pos hc]
  · rw [if_neg hc, if_neg hc]
    have hm : 2 ≤ x.Mark := by
      simp only [Bool.or_eq_true, decide_eq_true_eq, not_or] at hc
      omega
    have e : (cs n x).N = co n x.N := by rw [cs_n, if_pos hm]
    rw [e]
    obtain ⟨a, b⟩ := b
    cases b
    · simp [cp]
    · simp only [cp, if_true, Bool.not_true, Bool.false_or, decide_eq_true_eq]
      by_cases h1 : a < x.N
      · rw [if_pos h1]
        have := co_mono hn (Int.le_of_lt h1)
        by_cases h2 : co n a < co n x.N
        · rw [if_pos h2]; rfl
        · rw [if_neg h2]
          have : co n a = co n x.N := by omega
          rw [this]; rfl
      · rw [if_neg h1]
        have := co_mono hn (show x.N ≤ a by omega)
        rw [if_neg (by omega)]; rfl
theorem fold_cs (f : Flight) {n : Int} (hn : 1 ≤ n) : ∀ (l : List Sample) (b : Int × Bool), (l.map (cs n)).foldl (pk f) (cp n b) = cp n (l.foldl (pk f) b)
  | [], b => rfl
  | x :: l, b => by rw [List.map_cons, List.foldl_cons, List.foldl_cons, pk_cs f hn]; exact fold_cs f hn l _
theorem pk_mf (f : Flight) (s : Str) (n : Int) : pk (mf f s n) = pk f := rfl
theorem pkOf_mask (f : Flight) (s : Str) {n : Int} (hn : 1 ≤ n) : pkOf (mf f s n) s = cp n (pkOf f s) := by
  unfold pkOf
  rw [pk_mf]
  have e : (mf f s n).Tracks.find? (fun t => decide (t.Name = s)) = (f.Tracks.find? fun t => decide (t.Name = s)).map (mt s n) := by
    show (f.Tracks.map (mt s n)).find? _ = _
    rw [List.find?_map]
    rfl
  rw [e]
  cases q : f.Tracks.find? fun t => decide (t.Name = s) with
  | none => rfl
  | some t =>
    have hs : t.Name = s := by have := List.find?_some (p := fun t : Track => decide (t.Name = s)) q; simpa using this
    simp only [Option.map_some]
    have : (mt s n t).Series.Samples = t.Series.Samples.map (cs n) := by simp [mt, hs]
    rw [this]
    exact fold_cs f hn _ (0, false)
theorem fold_rng (f : Flight) : ∀ (l : List Sample) (b : Int × Bool), (-1125899906842624 ≤ b.1 ∧ b.1 ≤ 1125899906842624) → (∀ x ∈ l, -1125899906842624 ≤ x.N ∧ x.N ≤ 1125899906842624) → -1125899906842624 ≤ (l.foldl (pk f) b).1 ∧ (l.foldl (pk f) b).1 ≤ 1125899906842624
  | [], b, hb, _ => hb
  | x :: l, b, hb, h => by
    rw [List.foldl_cons]
    refine fold_rng f l _ ?_ fun y hy => h y (by simp [hy])
    unfold pk
    have := h x (by simp)
    split
    · exact hb
    · split
      · exact this
      · exact hb
theorem pkOf_rng {f : Flight} (g : Good f) (s : Str) : -1125899906842624 ≤ (pkOf f s).1 ∧ (pkOf f s).1 ≤ 1125899906842624 := by
  unfold pkOf
  split
  · rename_i t ht
    exact fold_rng f _ _ (by decide) (trk_facts g.trk (List.mem_of_find?_eq_some ht)).2
  · decide
theorem Masked_eq (f : Flight) (s : Str) (n : Int) (h : okFlight f) (hs : okS s) (hf : fltC f = 0) (hi : isNm s = true) (hn : 1 ≤ n ∧ n ≤ 1125899906842624) : F_fleet_Masked f (m1 s n) = some (mf f s n, 0) := by
  have g := good_of hf
  unfold F_fleet_Masked
  rw [CheckFlight_eq f h, CheckMask1 s n hs, hf, hi]
  simp only [letO_eq, bindO_s]
  rw [masked_eq f s n hn g.many (fun t ht => trk_facts g.trk ht) h.2.2.1]
  simp [hn.1, hn.2, iteB, bindO]
theorem Masked_big (f : Flight) (s : Str) (n : Int) (h : okFlight f) (hs : okS s) (hf : fltC f = 0) (hi : isNm s = true) (hn : ¬ n ≤ 1125899906842624) : ∃ m, F_fleet_Masked f (m1 s n) = some (m, 9) := by
  unfold F_fleet_Masked
  rw [CheckFlight_eq f h, CheckMask1 s n hs, hf, hi]
  simp [letO, bindO, iteB, hn]
theorem Masked_some (f : Flight) (s : Str) (n : Int) (h : okFlight f) (hs : okS s) (hb : fltC f ≠ 0 ∨ isNm s = false) : ∃ m, F_fleet_Masked f (m1 s n) = some m := by
  unfold F_fleet_Masked
  rw [CheckFlight_eq f h, CheckMask1 s n hs]
  rcases hb with hb | hb
  · simp [letO, bindO, iteB, hb]
  · by_cases hf : fltC f = 0
    · simp [letO, bindO, iteB, hb, hf]
    · simp [letO, bindO, iteB, hf]
end Go.Lf
