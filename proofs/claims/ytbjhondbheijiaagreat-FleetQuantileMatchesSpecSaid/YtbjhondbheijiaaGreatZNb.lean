/- Walks: what each function computes, for every argument; no condition but those that stand in the statements. -/
import Derived.Test.YtbjhondbheijiaaGreatZNa
namespace Go.Lf
/-- A number's grain. -/
def co (n N : Int) : Int := max (N - N % n) (-1125899906842624)
theorem tm_neg (N n : Int) (hn : 1 ≤ n) : (if N.tmod n < 0 then N.tmod n + n else N.tmod n) = N % n := by
  have h1 := Int.emod_nonneg N (b := n) (by omega)
  have h2 := Int.emod_lt_of_pos N (b := n) (by omega)
  rw [Int.tmod_eq_emod]
  have e : (n.natAbs : Int) = n := Int.natAbs_of_nonneg (by omega)
  by_cases h : 0 ≤ N ∨ n ∣ N
  · rw [if_pos h]; split <;> omega
  · rw [if_neg h]
    have : N % n ≠ 0 := by
      intro q; exact h (.inr (Int.dvd_of_emod_eq_zero q))
    split <;> omega
theorem coarse_eq (N n : Int) (hN : -1125899906842624 ≤ N ∧ N ≤ 1125899906842624) (hn : 1 ≤ n ∧ n ≤ 1125899906842624) : F_fleet_coarse N n = some (co n N) := by
  have h1 := Int.emod_nonneg N (b := n) (by omega)
  have h2 := Int.emod_lt_of_pos N (b := n) (by omega)
  have t := tm_neg N n hn.1
  unfold F_fleet_coarse rem' co
  rw [if_neg (by omega), bindO_s]
  simp only [letO_eq, iteB_dec]
  have hr : (if N.tmod n < 0 then some (IntKind.i64.wrap (N.tmod n + n)) else some (N.tmod n)) = some (N % n) := by
    by_cases c : N.tmod n < 0
    · rw [if_pos c] at t ⊢
      rw [Go.OB.wrap_i64 (by omega) (by omega), t]
    · rw [if_neg c] at t ⊢
      rw [t]
  rw [hr, bindO_s, Go.OB.wrap_i64 (by omega) (by omega)]
theorem co_mono {n a b : Int} (hn : 1 ≤ n) (h : a ≤ b) : co n a ≤ co n b := by
  unfold co
  have e1 := Int.emod_add_mul_ediv a n
  have e2 := Int.emod_add_mul_ediv b n
  have := Int.ediv_le_ediv (show (0 : Int) < n by omega) h
  have := Int.mul_le_mul_of_nonneg_left this (show (0 : Int) ≤ n by omega)
  omega
theorem co_rng {n N : Int} (hN : -1125899906842624 ≤ N ∧ N ≤ 1125899906842624) (hn : 1 ≤ n) : -1125899906842624 ≤ co n N ∧ co n N ≤ 1125899906842624 := by
  have h1 := Int.emod_nonneg N (b := n) (by omega)
  unfold co; omega
/-- A sample under a grain. -/
def cs (n : Int) (x : Sample) : Sample := if decide (2 ≤ x.Mark) then ⟨x.At, co n x.N, x.Mark⟩ else x
theorem clone_eq (l : List Sample) (h : l.length ≤ 20000) : F_slices_Clone___api_Sample_api_Sample_ l = some l := by
  have e : app' 24 ([] : List Sample) l = some l := by
    unfold app'
    rw [if_pos]
    · rfl
    · constructor
      · simp [maxLen]; omega
      · simp; omega
  unfold F_slices_Clone___api_Sample_api_Sample_ nilO
  rw [e]
  simp only [bindO_s, iteB_tr, iteB_fa]
  cases l <;> simp

theorem masked_L3 (g : Grain) (hn : 1 ≤ g.N ∧ g.N ≤ 1125899906842624) (l : List Sample) (hl : l.length ≤ 20000) (hN : ∀ x ∈ l, -1125899906842624 ≤ x.N ∧ x.N ≤ 1125899906842624) :
    F_fleet_masked_L3 g (l.length : Int) (0, l) = some (l.map (cs g.N)) := by
  unfold F_fleet_masked_L3
  refine loopO_at (fun i => ((i : Int), (l.take i).map (cs g.N) ++ l.drop i)) l (some (l.map (cs g.N))) (by omega) ?_ ?_
  · intro kk i x hx hi
    have hlen : ((l.take i).map (cs g.N)).length = i := by simp; omega
    have hat : at' ((l.take i).map (cs g.N) ++ l.drop i) (i : Int) = some x := by
      rw [at_nat, List.getElem?_append_right (by omega), hlen, Nat.sub_self, List.getElem?_drop, Nat.add_zero, hx]
    have hd : l.drop i = x :: l.drop (i + 1) := by rw [List.drop_eq_getElem_cons hi]; congr 1; rw [List.getElem?_eq_getElem hi] at hx; exact Option.some.inj hx
    have ht : l.take (i + 1) = l.take i ++ [x] := by rw [List.take_add_one, hx]; rfl
    simp only [letO_eq]
    rw [lt_true hi, iteB_tr, hat]
    simp only [bindO_s]
    rw [wrap1 hi (by omega), ht, List.map_append, List.append_assoc]
    have hc : cs g.N x = if decide (2 ≤ x.Mark) then ⟨x.At, co g.N x.N, x.Mark⟩ else x := rfl
    have hset : set' ((l.take i).map (cs g.N) ++ l.drop i) (i : Int) (Sample.mk x.At (co g.N x.N) x.Mark) = some ((l.take i).map (cs g.N) ++ Sample.mk x.At (co g.N x.N) x.Mark :: l.drop (i + 1)) := by
      unfold set'
      rw [if_pos (by simp; omega), Int.toNat_natCast, hd, List.set_append_right _ _ (by omega), hlen, Nat.sub_self]; rfl
    rw [coarse_eq x.N g.N (hN x (List.mem_of_getElem? hx)) hn]
    simp only [bindO_s]
    rw [hset]
    cases hq : decide (2 ≤ x.Mark)
    · rw [iteB_fa, bindO_s, hd]
      have : cs g.N x = x := by rw [hc, hq]; rfl
      simp [this]
    · rw [iteB_tr, bindO_s, bindO_s]
      have : cs g.N x = ⟨x.At, co g.N x.N, x.Mark⟩ := by rw [hc, hq]; rfl
      simp [this]
  · intro kk; simp only [letO_eq]; rw [lt_self]; simp [iteB]

theorem cs_rng {n : Int} {l : List Sample} (hn : 1 ≤ n) (hN : ∀ x ∈ l, -1125899906842624 ≤ x.N ∧ x.N ≤ 1125899906842624) : ∀ x ∈ l.map (cs n), -1125899906842624 ≤ x.N ∧ x.N ≤ 1125899906842624 := by
  intro x hx
  obtain ⟨y, hy, rfl⟩ := List.mem_map.1 hx
  unfold cs
  split
  · exact co_rng (hN y hy) hn
  · exact hN y hy
/-- Some grains on a track's samples. -/
def grs (s : Str) (gs : List Grain) (l : List Sample) : List Sample := gs.foldl (fun l g => if g.Track = s then l.map (cs g.N) else l) l
theorem grs_rng {s : Str} : ∀ {gs : List Grain} {l : List Sample}, (∀ g ∈ gs, 1 ≤ g.N) → (∀ x ∈ l, -1125899906842624 ≤ x.N ∧ x.N ≤ 1125899906842624) → (grs s gs l).length = l.length ∧ ∀ x ∈ grs s gs l, -1125899906842624 ≤ x.N ∧ x.N ≤ 1125899906842624
  | [], l, _, h => ⟨rfl, h⟩
  | g :: gs, l, hg, h => by
    have hr : ∀ g ∈ gs, 1 ≤ g.N := fun x hx => hg x (List.mem_cons_of_mem _ hx)
    show (grs s gs (if g.Track = s then l.map (cs g.N) else l)).length = _ ∧ _
    by_cases c : g.Track = s
    · have q := grs_rng (s := s) hr (cs_rng (hg g List.mem_cons_self) h)
      rw [List.length_map] at q
      unfold grs
      simp only [List.foldl_cons, if_pos c]
      exact q
    · have q := grs_rng (s := s) hr h
      unfold grs
      simp only [List.foldl_cons, if_neg c]
      exact q
theorem grs_snoc (s : Str) (gs : List Grain) (g : Grain) (l : List Sample) : grs s (gs ++ [g]) l = if g.Track = s then (grs s gs l).map (cs g.N) else grs s gs l := by
  unfold grs; rw [List.foldl_append]; rfl
structure Gm (m : Mask) : Prop where
  days : 1 ≤ m.Days ∧ m.Days ≤ 1000000
  many : m.Grains.length ≤ 30
  gr : ∀ g ∈ m.Grains, 1 ≤ g.N ∧ g.N ≤ 1125899906842624
theorem masked_L2 (m : Mask) (gm : Gm m) (t : Track) (hl : t.Series.Samples.length ≤ 20000) (hN : ∀ x ∈ t.Series.Samples, -1125899906842624 ≤ x.N ∧ x.N ≤ 1125899906842624) :
    F_fleet_masked_L2 m t (m.Grains.length : Int) (0, t.Series.Samples) = some (grs t.Name m.Grains t.Series.Samples) := by
  unfold F_fleet_masked_L2
  have hm := gm.many
  refine loopO_at (fun (i : Nat) => ((i : Int), grs t.Name (m.Grains.take i) t.Series.Samples)) m.Grains (some (grs t.Name m.Grains t.Series.Samples)) (by omega) ?_ ?_
  · intro kk i x hx hi
    have ht : m.Grains.take (i + 1) = m.Grains.take i ++ [x] := by rw [List.take_add_one, hx]; rfl
    have hg := gm.gr x (List.mem_of_getElem? hx)
    obtain ⟨r1, r2⟩ := grs_rng (s := t.Name) (gs := m.Grains.take i) (fun g hg => (gm.gr g (List.mem_of_mem_take hg)).1) hN
    simp only [letO_eq]
    rw [lt_true hi, iteB_tr, at_ok hx, bindO_s, wrap1 hi (by omega), ht, grs_snoc]
    by_cases c : x.Track = t.Name
    · rw [decide_eq_false (fun h => h c), iteB_fa, masked_L3 x hg _ (by omega) r2, bindO_s, if_pos c]
    · rw [decide_eq_true c, iteB_tr, bindO_s, if_neg c]
  · intro kk; simp only [letO_eq, List.take_length]; rw [lt_self, iteB_fa]
def hid (m : Mask) (s : Str) : Bool := m.Hide.any fun y => decide (s = y)
theorem anyI_any (s : Str) : ∀ (l : List Str) (i : Nat), anyI (fun _ y => decide (s = y)) l i = l.any fun y => decide (s = y)
  | [], _ => rfl
  | x :: l, i => by rw [anyI, List.any_cons, anyI_any s l (i + 1)]
def mtk (m : Mask) (t : Track) : Track := ⟨t.Name, ⟨t.Series.Den, grs t.Name m.Grains t.Series.Samples⟩, t.Long⟩
def mts (m : Mask) (l : List Track) : List Track := (l.filter fun t => !hid m t.Name).map (mtk m)
theorem mts_snoc (m : Mask) (l : List Track) (x : Track) : mts m (l ++ [x]) = if hid m x.Name = true then mts m l else mts m l ++ [mtk m x] := by
  unfold mts
  rw [List.filter_append, List.map_append]
  cases h : hid m x.Name <;> simp [h]
theorem mts_len (m : Mask) (l : List Track) : (mts m l).length ≤ l.length := by unfold mts; rw [List.length_map]; exact List.length_filter_le _ _
def mfl (m : Mask) (f : Flight) : Flight := ⟨if m.Tails = true then [] else f.Tail, f.Route, f.Day - f.Day.tmod m.Days, f.From, f.To, mts m f.Tracks⟩
structure Okt (f : Flight) : Prop where
  day : 0 ≤ f.Day ∧ f.Day ≤ 1000000
  many : f.Tracks.length ≤ 30
  trk : ∀ t ∈ f.Tracks, t.Series.Samples.length ≤ 20000 ∧ ∀ x ∈ t.Series.Samples, -1125899906842624 ≤ x.N ∧ x.N ≤ 1125899906842624
theorem masked_eq (f : Flight) (m : Mask) (gm : Gm m) (o : Okt f) (hh : m.Hide.length ≤ 9223372036854775807) : F_fleet_masked f m = some (mfl m f) := by
  have hl := o.many
  have e : F_fleet_masked_L1 f m (f.Tracks.length : Int) ([], 0) = some (mts m f.Tracks) := by
    unfold F_fleet_masked_L1
    refine loopO_at (fun (i : Nat) => (mts m (f.Tracks.take i), (i : Int))) f.Tracks (some (mts m f.Tracks)) (by omega) ?_ ?_
    · intro kk i x hx hi
      obtain ⟨h1, h2⟩ := o.trk x (List.mem_of_getElem? hx)
      have ht : f.Tracks.take (i + 1) = f.Tracks.take i ++ [x] := by rw [List.take_add_one, hx]; rfl
      have hl2 := mts_len m (f.Tracks.take i)
      rw [List.length_take] at hl2
      have ha : app' 56 (mts m (f.Tracks.take i)) [Track.mk x.Name (Series.mk x.Series.Den (grs x.Name m.Grains x.Series.Samples)) x.Long] = some (mts m (f.Tracks.take i) ++ [mtk m x]) := by
        unfold app'
        rw [if_pos]
        · rfl
        · simp [maxLen]; omega
      simp only [letO_eq]
      rw [lt_true hi, iteB_tr, at_ok hx, bindO_s, contS_eq _ _ hh, bindO_s, anyI_any, ht, mts_snoc, wrap1 hi (by omega)]
      show bindO (iteB (hid m x.Name) _ _) _ = _
      cases hid m x.Name
      · rw [iteB_fa, clone_eq _ h1, bindO_s, masked_L2 m gm x h1 h2, bindO_s, ha, bindO_s, bindO_s]; rfl
      · rw [iteB_tr, bindO_s]; rfl
    · intro kk; simp only [letO_eq, List.take_length]; rw [lt_self, iteB_fa]
  have d := gm.days
  have dd := o.day
  have t1 := Int.tmod_nonneg m.Days dd.1
  have t2 := Int.tmod_lt_of_pos f.Day (show 0 < m.Days by omega)
  unfold F_fleet_masked
  simp only [letO_eq, bindO_s]
  unfold rem'
  rw [e, if_neg (by omega)]
  simp only [bindO_s]
  rw [Go.OB.wrap_i64 (by omega) (by omega)]
  unfold mfl
  cases m.Tails <;> rfl
end Go.Lf
namespace Go.Lf
theorem floor_eq (N n : Int) (hN : -1125899906842624 ≤ N ∧ N ≤ 1125899906842624) (hn : 1 ≤ n ∧ n ≤ 1125899906842624) : F_ref9_floor N n = some (co n N) := by
  have h1 := Int.emod_nonneg N (b := n) (by omega)
  have h2 := Int.emod_lt_of_pos N (b := n) (by omega)
  have t := tm_neg N n hn.1
  have e := Int.tdiv_mul_add_tmod N n
  have b1 : -1125899906842624 ≤ N.tdiv n ∧ N.tdiv n ≤ 1125899906842624 := by
    have q1 := Int.natAbs_tdiv_le_natAbs N n
    have q2 : (N.tdiv n).natAbs ≤ N.natAbs := q1
    omega
  unfold F_ref9_floor rem' quo' co
  rw [if_neg (by omega), bindO_s, if_neg (by omega), bindO_s, Go.OB.wrap_i64 (n := N.tdiv n) (by omega) (by omega)]
  simp only [letO_eq, iteB_dec]
  by_cases c : N.tmod n < 0
  · rw [if_pos c] at t ⊢
    rw [bindO_s, Go.OB.wrap_i64 (n := N.tdiv n - 1) (by omega) (by omega)]
    have e2 : (N.tdiv n - 1) * n = N - N % n := by rw [Int.sub_mul, Int.one_mul]; omega
    rw [e2, Go.OB.wrap_i64 (by omega) (by omega)]
  · rw [if_neg c] at t ⊢
    rw [bindO_s]
    have e2 : N.tdiv n * n = N - N % n := by omega
    rw [e2, Go.OB.wrap_i64 (by omega) (by omega)]
theorem rmasked_L2 (m : Mask) (t : Track) (hh : m.Hide.length ≤ 9223372036854775807) : F_ref9_masked_L2 m t (false, 0) = some (hid m t.Name) := by
  unfold F_ref9_masked_L2
  refine loopO_at (fun (i : Nat) => ((m.Hide.take i).any fun y => decide (t.Name = y), (i : Int))) m.Hide (some (hid m t.Name)) hh ?_ ?_
  · intro kk i x hx hi
    have ht : m.Hide.take (i + 1) = m.Hide.take i ++ [x] := by rw [List.take_add_one, hx]; rfl
    simp only [letO_eq]
    rw [lt_true hi, iteB_tr, at_ok hx, bindO_s, wrap1 hi hh, ht, List.any_append, show decide (x = t.Name) = decide (t.Name = x) from decide_eq_decide.2 ⟨Eq.symm, Eq.symm⟩, iteB_or2, bindO_s]
    simp
  · intro kk; simp only [letO_eq, List.take_length]; rw [lt_self, iteB_fa]; rfl
theorem rmasked_L4 (m : Mask) (g : Grain) (j : Int) (hj : at' m.Grains j = some g) (hn : 1 ≤ g.N ∧ g.N ≤ 1125899906842624) (l : List Sample) (hl : l.length ≤ 20000) (hN : ∀ x ∈ l, -1125899906842624 ≤ x.N ∧ x.N ≤ 1125899906842624) :
    F_ref9_masked_L4 m j l (0, []) = some (l.map (cs g.N)) := by
  unfold F_ref9_masked_L4
  refine loopO_at (fun (i : Nat) => ((i : Int), (l.take i).map (cs g.N))) l (some (l.map (cs g.N))) (by omega) ?_ ?_
  · intro kk i x hx hi
    have ht : l.take (i + 1) = l.take i ++ [x] := by rw [List.take_add_one, hx]; rfl
    have hlen : ((l.take i).map (cs g.N)).length = i := by simp; omega
    have ha : ∀ y : Sample, app' 24 ((l.take i).map (cs g.N)) [y] = some ((l.take i).map (cs g.N) ++ [y]) := by
      intro y
      unfold app'
      rw [if_pos]
      simp [maxLen]; omega
    simp only [letO_eq]
    rw [lt_true hi, iteB_tr, at_ok hx, bindO_s, wrap1 hi (by omega), ht, List.map_append]
    simp only [hj, bindO_s, floor_eq x.N g.N (hN x (List.mem_of_getElem? hx)) hn, ha]
    have hc : cs g.N x = if decide (2 ≤ x.Mark) then ⟨x.At, co g.N x.N, x.Mark⟩ else x := rfl
    cases hq : decide (2 ≤ x.Mark)
    · rw [iteB_fa, bindO_s]
      have : cs g.N x = x := by rw [hc, hq]; rfl
      simp [this]
    · rw [iteB_tr, bindO_s]
      have : cs g.N x = ⟨x.At, co g.N x.N, x.Mark⟩ := by rw [hc, hq]; rfl
      simp [this]
  · intro kk; simp only [letO_eq, List.take_length]; rw [lt_self, iteB_fa]
theorem rmasked_L3 (m : Mask) (gm : Gm m) (t : Track) (hl : t.Series.Samples.length ≤ 20000) (hN : ∀ x ∈ t.Series.Samples, -1125899906842624 ≤ x.N ∧ x.N ≤ 1125899906842624) :
    F_ref9_masked_L3 m t (0, t.Series.Samples) = some (grs t.Name m.Grains t.Series.Samples) := by
  unfold F_ref9_masked_L3
  have hm := gm.many
  refine loopO_at (fun (i : Nat) => ((i : Int), grs t.Name (m.Grains.take i) t.Series.Samples)) m.Grains (some (grs t.Name m.Grains t.Series.Samples)) (by omega) ?_ ?_
  · intro kk i x hx hi
    have ht : m.Grains.take (i + 1) = m.Grains.take i ++ [x] := by rw [List.take_add_one, hx]; rfl
    have hg := gm.gr x (List.mem_of_getElem? hx)
    obtain ⟨r1, r2⟩ := grs_rng (s := t.Name) (gs := m.Grains.take i) (fun g hg => (gm.gr g (List.mem_of_mem_take hg)).1) hN
    simp only [letO_eq]
    rw [lt_true hi, iteB_tr, at_ok hx, bindO_s, wrap1 hi (by omega), ht, grs_snoc]
    by_cases c : x.Track = t.Name
    · rw [decide_eq_false (fun h => h c), iteB_fa, rmasked_L4 m x (i : Int) (at_ok hx) hg _ (by omega) r2, bindO_s, bindO_s, if_pos c]
    · rw [decide_eq_true c, iteB_tr, bindO_s, if_neg c]
  · intro kk; simp only [letO_eq, List.take_length]; rw [lt_self, iteB_fa]
theorem rmasked_eq (f : Flight) (m : Mask) (gm : Gm m) (o : Okt f) (hh : m.Hide.length ≤ 9223372036854775807) : F_ref9_masked f m = some (mfl m f) := by
  have hl := o.many
  have e : F_ref9_masked_L1 f m (0, []) = some (mts m f.Tracks) := by
    unfold F_ref9_masked_L1
    refine loopO_at (fun (i : Nat) => ((i : Int), mts m (f.Tracks.take i))) f.Tracks (some (mts m f.Tracks)) (by omega) ?_ ?_
    · intro kk i x hx hi
      obtain ⟨h1, h2⟩ := o.trk x (List.mem_of_getElem? hx)
      have ht : f.Tracks.take (i + 1) = f.Tracks.take i ++ [x] := by rw [List.take_add_one, hx]; rfl
      have hl2 := mts_len m (f.Tracks.take i)
      rw [List.length_take] at hl2
      have ha : app' 56 (mts m (f.Tracks.take i)) [Track.mk x.Name (Series.mk x.Series.Den (grs x.Name m.Grains x.Series.Samples)) x.Long] = some (mts m (f.Tracks.take i) ++ [mtk m x]) := by
        unfold app'
        rw [if_pos]
        · rfl
        · simp [maxLen]; omega
      simp only [letO_eq]
      rw [lt_true hi, iteB_tr, at_ok hx, bindO_s, rmasked_L2 m x hh, bindO_s, ht, mts_snoc, wrap1 hi (by omega)]
      cases hid m x.Name
      · rw [iteB_fa, rmasked_L3 m gm x h1 h2, bindO_s, ha, bindO_s, bindO_s]; rfl
      · rw [iteB_tr, bindO_s]; rfl
    · intro kk; simp only [letO_eq, List.take_length]; rw [lt_self, iteB_fa]
  have d := gm.days
  have dd := o.day
  have t1 := Int.tmod_nonneg m.Days dd.1
  have t2 := Int.tmod_lt_of_pos f.Day (show 0 < m.Days by omega)
  have e1 := Int.tdiv_mul_add_tmod f.Day m.Days
  have q1 : (f.Day.tdiv m.Days).natAbs ≤ f.Day.natAbs := Int.natAbs_tdiv_le_natAbs f.Day m.Days
  unfold F_ref9_masked
  simp only [letO_eq, bindO_s]
  unfold quo'
  rw [e, if_neg (by omega)]
  simp only [bindO_s]
  rw [Go.OB.wrap_i64 (n := f.Day.tdiv m.Days) (by omega) (by omega), show f.Day.tdiv m.Days * m.Days = f.Day - f.Day.tmod m.Days by omega, Go.OB.wrap_i64 (by omega) (by omega)]
  unfold mfl
  cases m.Tails <;> rfl
end Go.Lf
namespace Go.Lf
theorem cs_at (n : Int) (x : Sample) : (cs n x).At = x.At ∧ (cs n x).Mark = x.Mark := by unfold cs; split <;> exact ⟨rfl, rfl⟩
theorem cs_n (n : Int) (x : Sample) : (cs n x).N = if 2 ≤ x.Mark then co n x.N else x.N := by unfold cs; by_cases h : 2 ≤ x.Mark <;> simp [h]
theorem smpE_iff (l : List Sample) (i : Nat) (x : Sample) : smpE l i x = 0 ↔ (0 ≤ x.At ∧ x.At ≤ 1099511627776) ∧ (-1125899906842624 ≤ x.N ∧ x.N ≤ 1125899906842624) ∧ (0 ≤ x.Mark ∧ x.Mark ≤ 4) ∧ (x.N = 0 ∨ 2 ≤ x.Mark) ∧ (∀ j y, i = j + 1 → l[j]? = some y → y.At < x.At) := by
  unfold smpE
  split
  · rename_i h
    simp only [Bool.or_eq_true, Bool.not_eq_true', Bool.and_eq_false_iff, decide_eq_false_iff_not] at h
    constructor
    · intro q; cases q
    · intro q; omega
  · rename_i h
    simp only [Bool.or_eq_true, Bool.not_eq_true', Bool.and_eq_false_iff, decide_eq_false_iff_not] at h
    split
    · rename_i h2
      simp only [Bool.and_eq_true, decide_eq_true_eq] at h2
      constructor
      · intro q; cases q
      · intro q; omega
    · rename_i h2
      simp only [Bool.and_eq_true, decide_eq_true_eq] at h2
      cases i with
      | zero =>
        simp only [true_iff]
        exact ⟨by omega, by omega, by omega, by omega, fun j y hj => by omega⟩
      | succ j =>
        cases e : l[j]? with
        | none =>
          simp only [e, true_iff]
          refine ⟨by omega, by omega, by omega, by omega, ?_⟩
          intro j' y hj hy
          obtain rfl : j' = j := by omega
          rw [e] at hy; cases hy
        | some y =>
          simp only [e, decide_eq_true_eq]
          constructor
          · intro q
            by_cases c : x.At ≤ y.At
            · rw [if_pos c] at q; cases q
            · refine ⟨by omega, by omega, by omega, by omega, ?_⟩
              intro j' z hj hz
              obtain rfl : j' = j := by omega
              rw [e] at hz; cases hz; omega
          · rintro ⟨_, _, _, _, q⟩
            have := q j y rfl e
            rw [if_neg (by omega)]
theorem ser_mask {d : Int} {l : List Sample} {n : Int} (hn : 1 ≤ n) (h : serC ⟨d, l⟩ = 0) : serC ⟨d, l.map (cs n)⟩ = 0 := by
  rw [ser_iff] at h ⊢
  obtain ⟨h1, h2, h3⟩ := h
  refine ⟨h1, by simpa using h2, ?_⟩
  intro i x hx
  simp only [List.getElem?_map, Option.map_eq_some_iff] at hx
  obtain ⟨y, hy, rfl⟩ := hx
  have := (smpE_iff _ _ _).1 (h3 i y hy)
  obtain ⟨q1, q2, q3, q4, q5⟩ := this
  obtain ⟨c1, c2⟩ := cs_at n y
  rw [smpE_iff, c1, c2, cs_n]
  have r := co_rng q2 hn
  refine ⟨q1, ?_, q3, ?_, ?_⟩
  · split <;> omega
  · by_cases c : 2 ≤ y.Mark
    · exact .inr c
    · rw [if_neg c]; omega
  · intro j z hj hz
    simp only [List.getElem?_map, Option.map_eq_some_iff] at hz
    obtain ⟨z', hz', rfl⟩ := hz
    rw [(cs_at n z').1]
    exact q5 j z' hj hz'
theorem cs_i64 {n : Int} {x : Sample} (hn : 1 ≤ n) (hN : -1125899906842624 ≤ x.N ∧ x.N ≤ 1125899906842624) (h : okSample x) : okSample (cs n x) := by
  obtain ⟨c1, c2⟩ := cs_at n x
  have r := co_rng hN hn
  refine ⟨by rw [c1]; exact h.1, ?_, by rw [c2]; exact h.2.2⟩
  rw [cs_n]; unfold i64; split <;> omega
/-- What a track without fault holds. -/
theorem trk_facts {l : List Track} (h : trkC l = 0) {t : Track} (ht : t ∈ l) : t.Series.Samples.length ≤ 20000 ∧ ∀ x ∈ t.Series.Samples, -1125899906842624 ≤ x.N ∧ x.N ≤ 1125899906842624 := by
  obtain ⟨i, hi⟩ := List.getElem?_of_mem ht
  have q := ((trkE_iff l i t).1 (((trk_iff l).1 h).2 i t hi)).2.2.1
  rw [ser_iff] at q
  refine ⟨q.2.1, fun x hx => ?_⟩
  obtain ⟨j, hj⟩ := List.getElem?_of_mem hx
  exact ((smpE_iff _ _ _).1 (q.2.2 j x hj)).2.1

theorem co_idem {n N : Int} (hn : 1 ≤ n) (hN : -1125899906842624 ≤ N) : co n (co n N) = co n N := by
  have h1 := Int.emod_nonneg N (b := n) (by omega)
  have h2 := Int.emod_nonneg (-1125899906842624) (b := n) (by omega)
  have e : (N - N % n) % n = 0 := by
    have := Int.mul_ediv_add_emod N n
    rw [show N - N % n = n * (N / n) by omega]
    exact Int.mul_emod_right n _
  unfold co
  by_cases c : -1125899906842624 ≤ N - N % n
  · rw [Int.max_eq_left c, e]; omega
  · have e2 : max (N - N % n) (-1125899906842624) = -1125899906842624 := Int.max_eq_right (by omega)
    rw [e2]; omega
theorem cs_idem {n : Int} (hn : 1 ≤ n) {x : Sample} (hN : -1125899906842624 ≤ x.N) : cs n (cs n x) = cs n x := by
  unfold cs
  by_cases h : 2 ≤ x.Mark
  · simp [h, co_idem hn hN]
  · simp [h]
theorem grs_none (s : Str) : ∀ (gs : List Grain) (l : List Sample), (∀ g ∈ gs, g.Track ≠ s) → grs s gs l = l
  | [], _, _ => rfl
  | g :: gs, l, h => by
    unfold grs
    rw [List.foldl_cons, if_neg (h g List.mem_cons_self)]
    exact grs_none s gs l fun x hx => h x (List.mem_cons_of_mem _ hx)
theorem grs_idem (s : Str) : ∀ (gs : List Grain) (l : List Sample), gs.Pairwise (fun a b => a.Track ≠ b.Track) → (∀ g ∈ gs, 1 ≤ g.N) → (∀ x ∈ l, -1125899906842624 ≤ x.N ∧ x.N ≤ 1125899906842624) → grs s gs (grs s gs l) = grs s gs l
  | [], _, _, _, _ => rfl
  | g :: gs, l, hp, hg, hN => by
    rw [List.pairwise_cons] at hp
    have hr : ∀ g ∈ gs, 1 ≤ g.N := fun x hx => hg x (List.mem_cons_of_mem _ hx)
    by_cases c : g.Track = s
    · have hn : ∀ x ∈ gs, x.Track ≠ s := fun x hx e => hp.1 x hx (c.trans e.symm)
      have q : ∀ k, grs s (g :: gs) k = k.map (cs g.N) := fun k => by
        show grs s gs (if g.Track = s then k.map (cs g.N) else k) = _
        rw [if_pos c]; exact grs_none s gs _ hn
      rw [q, q, List.map_map]
      apply List.map_congr_left
      intro x hx
      exact cs_idem (hg g List.mem_cons_self) (hN x hx).1
    · have q : ∀ k, grs s (g :: gs) k = grs s gs k := fun k => by
        show grs s gs (if g.Track = s then k.map (cs g.N) else k) = _
        rw [if_neg c]
      rw [q, q]
      exact grs_idem s gs l hp.2 hr hN
theorem mts_cons (m : Mask) (x : Track) (l : List Track) : mts m (x :: l) = if hid m x.Name = true then mts m l else mtk m x :: mts m l := by
  unfold mts
  rw [List.filter_cons]
  cases hid m x.Name <;> simp
/-- What holds of a mask without fault. -/
structure Good2 (m : Mask) : Prop extends Gm m where
  pw : m.Grains.Pairwise fun a b => a.Track ≠ b.Track
theorem mtk_idem {m : Mask} (g : Good2 m) {t : Track} (hN : ∀ x ∈ t.Series.Samples, -1125899906842624 ≤ x.N ∧ x.N ≤ 1125899906842624) : mtk m (mtk m t) = mtk m t := by
  show Track.mk t.Name ⟨t.Series.Den, grs t.Name m.Grains (grs t.Name m.Grains t.Series.Samples)⟩ t.Long = _
  rw [grs_idem _ _ _ g.pw (fun x hx => (g.gr x hx).1) hN]; rfl
theorem mts_idem {m : Mask} (g : Good2 m) : ∀ (l : List Track), (∀ t ∈ l, ∀ x ∈ t.Series.Samples, -1125899906842624 ≤ x.N ∧ x.N ≤ 1125899906842624) → mts m (mts m l) = mts m l
  | [], _ => rfl
  | t :: l, h => by
    have ih := mts_idem g l fun u hu => h u (List.mem_cons_of_mem _ hu)
    rw [mts_cons]
    split
    · exact ih
    · rename_i c
      rw [mts_cons, if_neg (show ¬ hid m (mtk m t).Name = true from c), ih, mtk_idem g (h t List.mem_cons_self)]
theorem mfl_idem {m : Mask} (g : Good2 m) {f : Flight} (h : ∀ t ∈ f.Tracks, ∀ x ∈ t.Series.Samples, -1125899906842624 ≤ x.N ∧ x.N ≤ 1125899906842624) : mfl m (mfl m f) = mfl m f := by
  have e : (f.Day - f.Day.tmod m.Days).tmod m.Days = 0 := by
    have := Int.mul_tdiv_add_tmod f.Day m.Days
    rw [show f.Day - f.Day.tmod m.Days = m.Days * f.Day.tdiv m.Days by omega]
    exact Int.mul_tmod_right _ _
  unfold mfl
  simp only [mts_idem g f.Tracks h, e, Int.sub_zero]
  cases m.Tails <;> rfl
theorem mts_mem {m : Mask} {l : List Track} {t : Track} (h : t ∈ mts m l) : ∃ u ∈ l, t = mtk m u := by
  unfold mts at h
  obtain ⟨u, hu, rfl⟩ := List.mem_map.1 h
  exact ⟨u, (List.mem_filter.1 hu).1, rfl⟩
theorem ser_grs {d : Int} {s : Str} : ∀ (gs : List Grain) (l : List Sample), (∀ g ∈ gs, 1 ≤ g.N) → serC ⟨d, l⟩ = 0 → serC ⟨d, grs s gs l⟩ = 0
  | [], _, _, h => h
  | g :: gs, l, hg, h => by
    show serC ⟨d, grs s gs (if g.Track = s then l.map (cs g.N) else l)⟩ = 0
    refine ser_grs gs _ (fun x hx => hg x (List.mem_cons_of_mem _ hx)) ?_
    split
    · exact ser_mask (hg g List.mem_cons_self) h
    · exact h
theorem mts_pw {m : Mask} {l : List Track} (h : l.Pairwise fun a b => a.Name ≠ b.Name) : (mts m l).Pairwise fun a b => a.Name ≠ b.Name := by
  unfold mts
  rw [List.pairwise_map]
  exact (List.Pairwise.filter _ h).imp fun h => h
theorem trk_mts {m : Mask} (g : Gm m) {l : List Track} (h : trkC l = 0) : trkC (mts m l) = 0 := by
  have hp := mts_pw (m := m) (names_pw h)
  rw [trk_iff] at h ⊢
  refine ⟨Nat.le_trans (mts_len m l) h.1, ?_⟩
  intro i x hx
  obtain ⟨u, hu, rfl⟩ := mts_mem (List.mem_of_getElem? hx)
  obtain ⟨j, hj⟩ := List.getElem?_of_mem hu
  obtain ⟨q1, _, q3, q4⟩ := (trkE_iff l j u).1 (h.2 j u hj)
  rw [trkE_iff]
  refine ⟨q1, ?_, ser_grs _ _ (fun x hx => (g.gr x hx).1) q3, q4⟩
  rw [Bool.eq_false_iff]
  intro ht
  obtain ⟨k, z, h1, h2⟩ := (anyI_iff _ _ _).1 ht
  rw [List.getElem?_take] at h1
  split at h1
  · rename_i hk
    rw [List.pairwise_iff_getElem] at hp
    have e1 := List.getElem?_eq_some_iff.1 h1
    have e2 := List.getElem?_eq_some_iff.1 hx
    have := hp k i e1.1 e2.1 hk
    rw [e1.2, e2.2] at this
    exact this (by simpa using h2)
  · cases h1
theorem good_mfl {m : Mask} (gm : Gm m) {f : Flight} (g : Good f) : Good (mfl m f) := by
  have d := gm.days
  have dd := g.day
  have t1 := Int.tmod_nonneg m.Days dd.1
  have t2 : f.Day.tmod m.Days ≤ f.Day := by
    have e := Int.mul_tdiv_add_tmod f.Day m.Days
    have := Int.mul_nonneg (show 0 ≤ m.Days by omega) (Int.tdiv_nonneg dd.1 (show 0 ≤ m.Days by omega))
    omega
  refine ⟨?_, g.route, ⟨by show 0 ≤ f.Day - _; omega, by show f.Day - _ ≤ _; omega⟩, g.frm, g.span, Nat.le_trans (mts_len m f.Tracks) g.many, trk_mts gm g.trk⟩
  show (if m.Tails = true then [] else f.Tail) = [] ∨ isNm (if m.Tails = true then [] else f.Tail) = true
  split
  · exact .inl rfl
  · exact g.tail
theorem ok_grs {s : Str} : ∀ (gs : List Grain) (l : List Sample), (∀ g ∈ gs, 1 ≤ g.N) → (∀ x ∈ l, -1125899906842624 ≤ x.N ∧ x.N ≤ 1125899906842624) → (∀ x ∈ l, okSample x) → ∀ x ∈ grs s gs l, okSample x
  | [], _, _, _, h => h
  | g :: gs, l, hg, hN, h => by
    show ∀ x ∈ grs s gs (if g.Track = s then l.map (cs g.N) else l), okSample x
    have hr : ∀ g ∈ gs, 1 ≤ g.N := fun x hx => hg x (List.mem_cons_of_mem _ hx)
    split
    · refine ok_grs gs _ hr (cs_rng (hg g List.mem_cons_self) hN) ?_
      intro x hx
      obtain ⟨y, hy, rfl⟩ := List.mem_map.1 hx
      exact cs_i64 (hg g List.mem_cons_self) (hN y hy) (h y hy)
    · exact ok_grs gs l hr hN h
theorem ok_mfl {m : Mask} (gm : Gm m) {f : Flight} (g : Good f) (h : okFlight f) : okFlight (mfl m f) := by
  have g2 := (good_mfl gm g).day
  obtain ⟨h1, h2, h3, h4, h5, h6, h7⟩ := h
  refine ⟨?_, h2, ?_, h4, h5, Nat.le_trans (mts_len m f.Tracks) h6, ?_⟩
  · show okS (if m.Tails = true then [] else f.Tail)
    split
    · exact Nat.zero_le _
    · exact h1
  · unfold i64; omega
  · intro t ht
    obtain ⟨u, hu, rfl⟩ := mts_mem (l := f.Tracks) ht
    obtain ⟨q1, ⟨q2, q3, q4⟩, q5⟩ := h7 u hu
    obtain ⟨r1, r2⟩ := trk_facts g.trk hu
    have hr : ∀ g ∈ m.Grains, 1 ≤ g.N := fun x hx => (gm.gr x hx).1
    refine ⟨q1, ⟨q2, ?_, ok_grs _ _ hr r2 q4⟩, q5⟩
    show (grs _ _ _).length ≤ _
    rw [(grs_rng hr r2).1]; exact q3
theorem okt_of {f : Flight} (g : Good f) : Okt f := ⟨g.day, g.many, fun _ ht => trk_facts g.trk ht⟩
/-! ### Masks -/
theorem findO_all {α : Type} (e : Nat → α → Int) : ∀ (l : List α) (i : Nat) (fin : Option Int), findO (fun i x => if e i x = 0 then none else some (some (e i x))) fin l i = some 0 → (∀ j x, l[j]? = some x → e (i + j) x = 0) ∧ fin = some 0
  | [], i, fin, h => ⟨fun j x hx => by simp at hx, h⟩
  | x :: l, i, fin, h => by
    rw [findO] at h
    by_cases c : e i x = 0
    · simp only [c, if_true] at h
      obtain ⟨h1, h2⟩ := findO_all e l (i + 1) fin h
      refine ⟨fun j y hy => ?_, h2⟩
      cases j with
      | zero => simp at hy; subst hy; simpa using c
      | succ j => have := h1 j y (by simpa using hy); rwa [show i + (j + 1) = i + 1 + j by omega]
    · simp only [c, if_false] at h
      exact absurd (Option.some.inj h) c
theorem mskE_some (m : Mask) : ∃ c, mskE m = some c := by
  have h1 : ∃ r, lstE m = some r := by unfold lstE; split <;> exact ⟨_, rfl⟩
  have h2 : ∃ r, mskG m = some r := by
    unfold mskG
    split
    · exact ⟨_, rfl⟩
    · exact findO_some h1 (fun i x r h => ite_some h) _ _
  unfold mskE
  split
  · exact ⟨_, rfl⟩
  · split
    · exact ⟨_, rfl⟩
    · exact findO_some h2 (fun i x r h => ite_some h) _ _
theorem graE_iff {l : List Grain} {i : Nat} {x : Grain} (h : graE l i x = 0) : anyI (fun _ y => decide (y.Track = x.Track)) (l.take i) 0 = false ∧ 1 ≤ x.N ∧ x.N ≤ 1125899906842624 := by
  unfold graE at h
  split at h
  · cases h
  · split at h
    · cases h
    · split at h
      · cases h
      · rename_i h1 h2 h3
        simp only [Bool.not_eq_true', Bool.and_eq_false_iff, decide_eq_false_iff_not] at h3
        exact ⟨by simpa using h2, by omega, by omega⟩
theorem good2_of {m : Mask} (h : mskE m = some 0) : Good2 m := by
  unfold mskE at h
  split at h
  · cases h
  · rename_i h1
    split at h
    · cases h
    · have h2 := (findO_all _ _ _ _ h).2
      unfold mskG at h2
      split at h2
      · cases h2
      · rename_i h3
        have h4 := (findO_all _ _ _ _ h2).1
        simp only [Bool.not_eq_true', Bool.and_eq_false_iff, decide_eq_false_iff_not] at h1
        have h3 : m.Grains.length ≤ 30 := by simp at h3; omega
        refine ⟨⟨by omega, h3, fun g hg => ?_⟩, ?_⟩
        · obtain ⟨j, hj⟩ := List.getElem?_of_mem hg
          have := h4 j g hj
          rw [Nat.zero_add] at this
          exact (graE_iff this).2
        · rw [List.pairwise_iff_getElem]
          intro i j hi hj hij e
          have q := h4 j _ (List.getElem?_eq_getElem hj)
          rw [Nat.zero_add] at q
          have t : anyI (fun _ z => decide (z.Track = m.Grains[j].Track)) (m.Grains.take j) 0 = true := (anyI_iff _ _ _).2 ⟨i, m.Grains[i], by rw [List.getElem?_take, if_pos hij]; exact List.getElem?_eq_getElem hi, by simpa using e⟩
          rw [(graE_iff q).1] at t; cases t
end Go.Lf
namespace Go.Lf
/-! ### Tracks of a flight -/
theorem trackOf_eq (f : Flight) (s : Str) (hl : f.Tracks.length ≤ 9223372036854775807) : F_fleet_trackOf f s = some (f.Tracks.find? fun t => decide (t.Name = s)) := by
  unfold F_fleet_trackOf
  simp only [letO_eq, joinO_eq]
  unfold F_fleet_trackOf_L1
  have key : ∀ (l : List Track) (i : Nat), findO (fun _ t => if decide (t.Name = s) = true then some (some (some t)) else none) (some none) l i = some (l.find? fun t => decide (t.Name = s)) := by
    intro l
    induction l with
    | nil => intro i; rfl
    | cons t l ih =>
      intro i
      rw [findO, List.find?_cons]
      cases h : decide (t.Name = s)
      · simpa using ih (i + 1)
      · simp
  rw [← key f.Tracks 0]
  refine loopO_find f.Tracks _ _ hl ?_ ?_
  · intro kk i x hx hi
    simp only [letO_eq]
    rw [lt_true hi, iteB_tr, at_ok hx, bindO_s, wrap1 hi hl]
    cases decide (x.Name = s)
    · rfl
    · simp only [iteB_tr, at_ok hx, bindO_s, if_true]
  · intro kk; simp only [letO_eq]; rw [lt_self]; rfl
/-- One sample of a peak. -/
def pk (f : Flight) (b : Int × Bool) (x : Sample) : Int × Bool :=
  if decide (x.Mark < 3) || !(decide (64 * f.From ≤ x.At) && decide (x.At ≤ 64 * f.To + 63)) then b else if !b.2 || decide (b.1 < x.N) then (x.N, true) else b
theorem wr64 {f : Flight} (g : Good f) : IntKind.i64.wrap (64 * f.From) = 64 * f.From ∧ IntKind.i64.wrap (64 * f.To) = 64 * f.To ∧ IntKind.i64.wrap (64 * f.To + 64) = 64 * f.To + 64 ∧ IntKind.i64.wrap (64 * f.To + 64 - 1) = 64 * f.To + 63 := by
  have := g.frm
  refine ⟨Go.OB.wrap_i64 (by omega) (by omega), Go.OB.wrap_i64 (by omega) (by omega), Go.OB.wrap_i64 (by omega) (by omega), ?_⟩
  rw [Go.OB.wrap_i64 (by omega) (by omega)]; omega
theorem peak_L1 (f : Flight) (g : Good f) (t : Track) (hl : t.Series.Samples.length ≤ 9223372036854775807) : F_fleet_peak_L1 f t (t.Series.Samples.length : Int) (0, false, 0) = some (t.Series.Samples.foldl (pk f) (0, false)) := by
  obtain ⟨w1, w2, w3, w4⟩ := wr64 g
  unfold F_fleet_peak_L1
  refine loopO_fold (σ := Int × Bool) (fun (i : Nat) b => (b.1, b.2, (i : Int))) t.Series.Samples (pk f) (fun b => some b) hl ?_ ?_ (0, false)
  · intro kk i b x hx hi
    simp only [letO_eq]
    rw [lt_true hi, iteB_tr, at_ok hx, bindO_s, w1, w2, w3, w4, wrap1 hi hl]
    simp only [fwithin, bindO_s, iteB_or2]
    unfold pk
    cases (decide (x.Mark < 3) || !(decide (64 * f.From ≤ x.At) && decide (x.At ≤ 64 * f.To + 63)))
    · cases (!b.2 || decide (b.1 < x.N)) <;> rfl
    · rfl
  · intro kk b; simp only [letO_eq]; rw [lt_self]; rfl
theorem rpeak_L2 (f : Flight) (g : Good f) (t : Track) (hl : t.Series.Samples.length ≤ 9223372036854775807) (b0 : Int × Bool) : F_ref9_peak_L2 f t (b0.1, b0.2, 0) = some ((t.Series.Samples.foldl (pk f) b0).1, t.Series.Den, (t.Series.Samples.foldl (pk f) b0).2) := by
  obtain ⟨w1, w2, w3, w4⟩ := wr64 g
  unfold F_ref9_peak_L2
  refine loopO_fold (σ := Int × Bool) (fun (i : Nat) b => (b.1, b.2, (i : Int))) t.Series.Samples (pk f) (fun b => some (b.1, t.Series.Den, b.2)) hl ?_ ?_ b0
  · intro kk i b x hx hi
    simp only [letO_eq]
    rw [lt_true hi, iteB_tr, at_ok hx, bindO_s, w1, w2, w3, w4, wrap1 hi hl]
    simp only [bindO_s, iteB_or2]
    unfold pk
    rw [← not_out]
    cases (decide (x.Mark < 3) || (decide (x.At < 64 * f.From) || decide (64 * f.To + 63 < x.At)))
    · cases (!b.2 || decide (b.1 < x.N)) <;> rfl
    · rfl
  · intro kk b; simp only [letO_eq]; rw [lt_self]; rfl
/-- The peak of a flight without fault. -/
def pkOf (f : Flight) (s : Str) : Int × Bool :=
  match f.Tracks.find? fun t => decide (t.Name = s) with
  | some t => t.Series.Samples.foldl (pk f) (0, false)
  | none => (0, false)
theorem peak_eq (f : Flight) (g : Good f) (h : okFlight f) (s : Str) : F_fleet_peak f s = some (pkOf f s) := by
  unfold F_fleet_peak pkOf
  rw [trackOf_eq f s h.2.2.2.2.2.1, bindO_s, letO_eq]
  cases e : f.Tracks.find? fun t => decide (t.Name = s) with
  | none => rfl
  | some t =>
    have hm := List.mem_of_find?_eq_some e
    have := (h.2.2.2.2.2.2 t hm).2.1.2.1
    simp only [Option.isNone_some, iteB_fa, bindO_s, letO_eq, peak_L1 f g t this]
def rst (f : Flight) (s : Str) (b : Int × Int × Bool) (t : Track) : Int × Int × Bool :=
  if decide (t.Name ≠ s) then b else ((t.Series.Samples.foldl (pk f) (b.1, b.2.2)).1, t.Series.Den, (t.Series.Samples.foldl (pk f) (b.1, b.2.2)).2)
theorem rst_none (f : Flight) (s : Str) : ∀ (l : List Track) (b : Int × Int × Bool), (∀ t ∈ l, t.Name ≠ s) → l.foldl (rst f s) b = b
  | [], b, _ => rfl
  | t :: l, b, h => by
    have := h t (by simp)
    rw [List.foldl_cons]
    have e : rst f s b t = b := by unfold rst; simp [this]
    rw [e]; exact rst_none f s l b fun u hu => h u (by simp [hu])
theorem rst_pk (f : Flight) (s : Str) : ∀ (l : List Track), l.Pairwise (fun a b => a.Name ≠ b.Name) → 
    ((l.foldl (rst f s) (0, 1, false)).1, (l.foldl (rst f s) (0, 1, false)).2.2) = match l.find? fun t => decide (t.Name = s) with
      | some t => t.Series.Samples.foldl (pk f) (0, false)
      | none => (0, false)
  | [], _ => rfl
  | t :: l, h => by
    rw [List.pairwise_cons] at h
    rw [List.foldl_cons, List.find?_cons]
    by_cases e : t.Name = s
    · rw [rst_none f s l _ (fun u hu q => h.1 u hu (by rw [e, q]))]
      simp [rst, e]
    · have e2 : rst f s (0, 1, false) t = (0, 1, false) := by unfold rst; simp [e]
      rw [e2, decide_eq_false e]
      exact rst_pk f s l h.2
/-- The Den of the track of that name. -/
def dnOf (f : Flight) (s : Str) : Int :=
  match f.Tracks.find? fun t => decide (t.Name = s) with
  | some t => t.Series.Den
  | none => 1
theorem rst_dn (f : Flight) (s : Str) : ∀ (l : List Track), l.Pairwise (fun a b => a.Name ≠ b.Name) → (l.foldl (rst f s) (0, 1, false)).2.1 = match l.find? fun t => decide (t.Name = s) with
      | some t => t.Series.Den
      | none => 1
  | [], _ => rfl
  | t :: l, h => by
    rw [List.pairwise_cons] at h
    rw [List.foldl_cons, List.find?_cons]
    by_cases e : t.Name = s
    · rw [rst_none f s l _ (fun u hu q => h.1 u hu (by rw [e, q]))]
      simp [rst, e]
    · have e2 : rst f s (0, 1, false) t = (0, 1, false) := by unfold rst; simp [e]
      rw [e2, decide_eq_false e]
      exact rst_dn f s l h.2
theorem rpeak_eq (f : Flight) (g : Good f) (h : okFlight f) (s : Str) : F_ref9_peak f s = some ((pkOf f s).1, dnOf f s, (pkOf f s).2) := by
  have hl := h.2.2.2.2.2.1
  have e : F_ref9_peak_L1 f s (0, 1, false, 0) = some (f.Tracks.foldl (rst f s) (0, 1, false)) := by
    unfold F_ref9_peak_L1
    refine loopO_fold (σ := Int × Int × Bool) (fun (i : Nat) b => (b.1, b.2.1, b.2.2, (i : Int))) f.Tracks (rst f s) (fun b => some b) hl ?_ ?_ (0, 1, false)
    · intro kk i b x hx hi
      have hs := (h.2.2.2.2.2.2 x (List.mem_of_getElem? hx)).2.1.2.1
      simp only [letO_eq]
      rw [lt_true hi, iteB_tr, at_ok hx, bindO_s, wrap1 hi hl]
      have := rpeak_L2 f g x hs (b.1, b.2.2)
      simp only at this
      rw [bindO_s, this]
      unfold rst
      cases decide (x.Name ≠ s) <;> rfl
    · intro kk b; simp only [letO_eq]; rw [lt_self]; rfl
  unfold F_ref9_peak
  rw [e, bindO_s]
  have := rst_pk f s f.Tracks (names_pw g.trk)
  have q : pkOf f s = ((f.Tracks.foldl (rst f s) (0, 1, false)).1, (f.Tracks.foldl (rst f s) (0, 1, false)).2.2) := this.symm
  have q2 : dnOf f s = (f.Tracks.foldl (rst f s) (0, 1, false)).2.1 := (rst_dn f s f.Tracks (names_pw g.trk)).symm
  rw [q, q2]
theorem fold_rng (f : Flight) : ∀ (l : List Sample) (b : Int × Bool), (-1125899906842624 ≤ b.1 ∧ b.1 ≤ 1125899906842624) → (∀ x ∈ l, -1125899906842624 ≤ x.N ∧ x.N ≤ 1125899906842624) → -1125899906842624 ≤ (l.foldl (pk f) b).1 ∧ (l.foldl (pk f) b).1 ≤ 1125899906842624
  | [], b, hb, _ => hb
  | x :: l, b, hb, h => by
    rw [List.foldl_cons]
    refine fold_rng f l _ ?_ fun y hy => h y (by simp [hy])
    unfold pk
    have := h x (by simp)
    split
    · exact hb
    · split
      · exact this
      · exact hb
theorem pkOf_rng {f : Flight} (g : Good f) (s : Str) : -1125899906842624 ≤ (pkOf f s).1 ∧ (pkOf f s).1 ≤ 1125899906842624 := by
  unfold pkOf
  split
  · rename_i t ht
    exact fold_rng f _ _ (by decide) (trk_facts g.trk (List.mem_of_find?_eq_some ht)).2
  · decide
end Go.Lf
