/- Walks: what each function computes, for every argument; no condition but those that stand in the statements. -/
import Derived.Test.YtckmiljbaejijaaGreatDoorEVa
namespace Go.Lf
open Go.OB
theorem app_nil {α:Type}{n:Nat}{l:List α}(hn:n≤64)(h:l.length≤1000000):app' n ([]:List α) l=some l:=by
  unfold app'
  have:(0+l.length) * n≤1000000 * 64:=Nat.mul_le_mul (by omega) hn
  rw [if_pos ⟨by rw [maxLen_eq]; simp; omega,by simp only [List.length_nil]; omega⟩,List.nil_append]
def tolE (t:fO):Int:=if t.Known=false∧t.N≠0 then 2 else if t.N< -1125899906842624∨1125899906842624<t.N then 9 else 0
end Go.Lf
namespace Go.Lf
open Go.OB
theorem smp_N {s : Series} (h : serC s = 0) {x : fJ} (hx : x ∈ s.Samples) : -1125899906842624 ≤ x.N ∧ x.N ≤ 1125899906842624 := by
  obtain ⟨-, -, hs⟩ := (ser_iff s).1 h
  obtain ⟨i, hi⟩ := List.getElem?_of_mem hx
  have q := hs i x hi
  unfold smpE at q
  split at q
  · exact absurd q (by decide)
  · rename_i c
    by_cases c1 : -1125899906842624 ≤ x.N
    · by_cases c2 : x.N ≤ 1125899906842624
      · exact ⟨c1, c2⟩
      · simp [c2] at c
    · simp [c1] at c
theorem hld_ok {s : Series} (h : serC s = 0) (t g : Int) : ((hld s t g).2 = false → (hld s t g).1.N = 0) ∧ -1125899906842624 ≤ (hld s t g).1.N ∧ (hld s t g).1.N ≤ 1125899906842624 := by
  unfold hld
  split
  · exact ⟨fun _ => rfl, by decide, by decide⟩
  · split
    · rename_i x hx
      split
      · exact ⟨fun _ => rfl, by decide, by decide⟩
      · have := smp_N h (List.mem_of_getElem? hx)
        exact ⟨fun q => (by cases q), this⟩
    · exact ⟨fun _ => rfl, by decide, by decide⟩
theorem trk_ser {l:List gZ}(h:trkC l=0){t:gZ}(ht:t ∈ l):serC t.Series=0:=by
  obtain ⟨h1,h2⟩:=(trk_iff l).1 h
  obtain ⟨i,hi⟩:=List.getElem?_of_mem ht
  exact ((trkE_iff l i t).1 (h2 i t hi)).2.2.1
theorem tel_tol {l:List gZ}(h:trkC l=0)(a:Int)(k:Nat): ∀x ∈ tel l a k,tolE x=0∧ -1125899906842624≤x.N∧x.N≤1125899906842624:=by
  intro x hx
  unfold tel at hx
  obtain ⟨t,ht,rfl⟩:=List.mem_map.1 hx
  obtain ⟨q1,q2⟩:=hld_ok (trk_ser h ht) (64 * (a+(k:Int))+63) t.Long
  refine ⟨?_,q2⟩
  unfold tolE inT
  rw [if_neg (by rintro ⟨c1,c2⟩; exact c2 (q1 c1)),if_neg (by have:=q2.1; have:=q2.2; simp only; omega)]
theorem cols_at {m:Nat}{rows:List (List Int)}{i k:Nat}(hi:i<m)(hk:k<rows.length): ∃c,(cols m rows)[i]? =some c∧c.length=rows.length∧c[k]? =some (rows[k].getD i 0):=
  ⟨_,cols_get hi,by rw [List.length_map],by rw [List.getElem?_map,List.getElem?_eq_getElem hk]; rfl⟩
end Go.Lf
namespace Go.Lf
open Go.OB
theorem evV_at {r:Rules}{l:List gZ}{a b:Int}{i k:Nat}(hi:i<r.Rules.length)(hk:k<spn a b): ∃c x,(evV r l a b)[i]? =some c∧c.length=spn a b∧c[k]? =some x∧(nxt (tel l a k) (runT (tel l a) (dI r l) k).2).1[i]? =some x:=by
  have rl:=runT_len (tel l a) (dI r l) (spn a b)
  have rg:=runT_get (tel l a) (dI r l) (spn a b) k hk
  obtain ⟨c,c1,c2,c3⟩:=cols_at (m:=r.Rules.length) (rows:=(runT (tel l a) (dI r l) (spn a b)).1) hi (k:=k) (by rw [rl]; exact hk)
  have rk:(runT (tel l a) (dI r l) (spn a b)).1[k]'(by rw [rl]; exact hk)=(nxt (tel l a k) (runT (tel l a) (dI r l) k).2).1:=by
    rw [List.getElem?_eq_getElem (by rw [rl]; exact hk)] at rg
    exact Option.some.inj rg
  rw [rk] at c3
  have vl:(nxt (tel l a k) (runT (tel l a) (dI r l) k).2).1.length=r.Rules.length:=by rw [(aV _ _).1,run_rl]
  refine ⟨c,_,c1,by rw [c2,rl],c3,?_⟩
  rw [List.getD_eq_getElem?_getD,List.getElem?_eq_getElem (by omega)]; rfl
end Go.Lf
namespace Go.Lf
open Go.OB
def lost1 (x:fJ):fJ:=fJ.mk x.At 0 0
def lostS (lo:List Int)(s:List fJ):List fJ:=lo.foldl (fun s n=>match at' s n with | some x=>s.set n.toNat (lost1 x) | none=>s) s
def lessT (lost:List (List Int))(i:Nat)(t:gZ):gZ:=gZ.mk t.Name (Series.mk t.Series.Den (lostS (lost.getD i []) t.Series.Samples)) t.Long
def less (lost:List (List Int))(l:List gZ):List gZ:=l.mapIdx (lessT lost)
def sR (x x':fJ):Prop:=x'=x∨x'=lost1 x
theorem pw_refl {α:Type}{R:α→α→Prop}(h: ∀x,R x x)(l:List α):pw R l l:=⟨rfl,fun i x x' h1 h2=>by rw [h1] at h2; obtain rfl:=Option.some.inj h2; exact h x⟩
theorem sR_At {x x':fJ}(h:sR x x'):x'.At=x.At:=by rcases h with rfl | rfl<;>rfl
theorem lostS_R (s0 : List fJ) : ∀ (lo : List Int) (s : List fJ), pw sR s0 s → pw sR s0 (lostS lo s)
  | [], s, h => h
  | n :: lo, s, h => by
    show pw sR s0 (lostS lo (match at' s n with | some x => s.set n.toNat (lost1 x) | none => s))
    refine lostS_R s0 lo _ ?_
    split
    · rename_i x hx
      refine ⟨by simp [h.1], fun i y y' hy hy' => ?_⟩
      rw [List.getElem?_set] at hy'
      split at hy'
      · rename_i e
        split at hy'
        · obtain rfl := Option.some.inj hy'
          unfold at' at hx
          split at hx
          · rw [e] at hx
            have := h.2 i y x hy hx
            right
            unfold lost1
            rw [sR_At this]
          · cases hx
        · cases hy'
      · exact h.2 i y y' hy hy'
    · exact h
theorem lostS_pw (lo:List Int)(s:List fJ):pw sR s (lostS lo s):=lostS_R s lo s (pw_refl (R:=sR) (fun x=>Or.inl rfl) s)
theorem cntP_pw {l l':List fJ}(t:Int)(h:pw sR l l'):kLe l' t=kLe l t:=by
  unfold kLe
  refine pw_ind (M:=fun l l'=>cntP (fun x:fJ=>decide (x.At≤t)) l'=cntP (fun x:fJ=>decide (x.At≤t)) l) rfl ?_ h
  intro x x' m m' h1 _ ih
  unfold cntP at ih ⊢
  rw [List.takeWhile_cons,List.takeWhile_cons,sR_At h1]
  cases decide (x.At≤t)
  · rfl
  · simp only [if_true,List.length_cons,ih]
theorem hld_less {s : Series} {s' : List fJ} (h : pw sR s.Samples s') (t g : Int) : (hld (Series.mk s.Den s') t g).2 = false ∨ hld (Series.mk s.Den s') t g = hld s t g := by
  unfold hld
  simp only
  rw [cntP_pw t h]
  cases kLe s.Samples t with
  | zero => right; rfl
  | succ n =>
    dsimp only
    cases hx : s.Samples[n]? with
    | none =>
      have : s'[n]? = none := by rw [List.getElem?_eq_none_iff] at hx ⊢; have := h.1; omega
      rw [this]; right; rfl
    | some x =>
      have hl : n < s'.length := by rw [← h.1]; exact (List.getElem?_eq_some_iff.1 hx).1
      obtain ⟨x', hx'⟩ : ∃ x', s'[n]? = some x' := ⟨_, List.getElem?_eq_getElem hl⟩
      rw [hx']
      dsimp only
      rcases h.2 n x x' hx hx' with rfl | rfl
      · right; rfl
      · left
        rw [if_pos (by unfold lost1; simp)]
theorem less_get {lost:List (List Int)}{l:List gZ}{i:Nat}{x:gZ}(h:l[i]? =some x):(less lost l)[i]? =some (lessT lost i x):=by
  unfold less; rw [List.getElem?_mapIdx,h]; rfl
theorem less_get' {lost:List (List Int)}{l:List gZ}{i:Nat}{y:gZ}(h:(less lost l)[i]? =some y): ∃x,l[i]? =some x∧y=lessT lost i x:=by
  unfold less at h
  rw [List.getElem?_mapIdx,Option.map_eq_some_iff] at h
  obtain ⟨x,h1,h2⟩:=h
  exact ⟨x,h1,h2.symm⟩
theorem less_len (lost:List (List Int))(l:List gZ):(less lost l).length=l.length:=by unfold less; simp
theorem less_map {β:Type}(f:gZ→β)(lost:List (List Int))(l:List gZ)(h: ∀i t,f (lessT lost i t)=f t):(less lost l).map f=l.map f:=by
  apply List.ext_getElem?
  intro i
  rw [List.getElem?_map,List.getElem?_map]
  cases hx:l[i]? with
  | none=>
    have:(less lost l)[i]? =none:=by rw [List.getElem?_eq_none_iff] at hx ⊢; rw [less_len]; exact hx
    rw [this]
  | some x=>rw [less_get hx]; exact congrArg some (h i x)
theorem less_names (lost:List (List Int))(l:List gZ):(less lost l).map gZ.Name=l.map gZ.Name:=less_map _ _ _ fun _ _=>rfl
theorem anyI_names (s:Str): ∀(l:List gZ) (i:Nat),aS (fun _ y=>decide (y.Name=s)) l i=(l.map gZ.Name).any fun y=>decide (y=s)
  | [],_=>rfl
  | x :: l,i=>by rw [aS,anyI_names s l (i+1),List.map_cons,List.any_cons]
theorem less_ser {s : Series} {s' : List fJ} (h : pw sR s.Samples s') (hs : serC s = 0) : serC (Series.mk s.Den s') = 0 := by
  obtain ⟨h1, h2, h3⟩ := (ser_iff s).1 hs
  refine (ser_iff _).2 ⟨h1, by show s'.length ≤ _; rw [← h.1]; exact h2, fun i x' hx' => ?_⟩
  change s'[i]? = some x' at hx'
  obtain ⟨x, hx⟩ : ∃ x, s.Samples[i]? = some x := ⟨_, List.getElem?_eq_getElem (by rw [h.1]; exact (List.getElem?_eq_some_iff.1 hx').1)⟩
  have q := h3 i x hx
  have r := h.2 i x x' hx hx'
  have At := sR_At r
  show smpE s' i x' = 0
  unfold smpE at q ⊢
  split at q
  · exact absurd q (by decide)
  · rename_i c
    split at q
    · exact absurd q (by decide)
    · rename_i c2
      have k1 : ¬ ((!(decide (0 ≤ x'.At) && decide (x'.At ≤ 1099511627776)) || !(decide (-1125899906842624 ≤ x'.N) && decide (x'.N ≤ 1125899906842624)) || !(decide (0 ≤ x'.Mark) && decide (x'.Mark ≤ 4))) = true) := by
        rcases r with rfl | rfl
        · exact c
        · intro d
          apply c
          simp only [lost1] at d
          simp only [Bool.or_eq_true] at d ⊢
          rcases d with (d | d) | d
          · left; left; exact d
          · simp at d
          · simp at d
      have k2 : ¬ ((decide (x'.N ≠ 0) && decide (x'.Mark ≤ 1)) = true) := by
        rcases r with rfl | rfl
        · exact c2
        · simp [lost1]
      rw [if_neg k1, if_neg k2]
      cases i with
      | zero => rfl
      | succ j =>
        dsimp only at q ⊢
        cases hy : s.Samples[j]? with
        | none =>
          have : s'[j]? = none := by rw [List.getElem?_eq_none_iff] at hy ⊢; have := h.1; omega
          rw [this]
        | some y =>
          obtain ⟨y', hy'⟩ : ∃ y', s'[j]? = some y' := ⟨_, List.getElem?_eq_getElem (by rw [← h.1]; exact (List.getElem?_eq_some_iff.1 hy).1)⟩
          rw [hy] at q
          rw [hy']
          dsimp only at q ⊢
          rw [sR_At (h.2 j y y' hy hy'), At]
          exact q
theorem less_trk {lost:List (List Int)}{l:List gZ}(h:trkC l=0):trkC (less lost l)=0:=by
  obtain ⟨h1,h2⟩:=(trk_iff l).1 h
  refine (trk_iff _).2 ⟨by rw [less_len]; exact h1,fun i y hy=>?_⟩
  obtain ⟨x,hx,rfl⟩:=less_get' hy
  obtain ⟨q1,q2,q3,q4,q5⟩:=(trkE_iff l i x).1 (h2 i x hx)
  refine (trkE_iff _ i _).2 ⟨q1,?_,less_ser (lostS_pw _ _) q3,q4,q5⟩
  rw [anyI_names] at q2 ⊢
  rw [List.map_take,less_names]
  rw [List.map_take] at q2
  exact q2
theorem less_gb {r:Rules}{lost:List (List Int)}{l:List gZ}(h:GB r l):GB r (less lost l):=
  ⟨h.ok,h.c,less_trk h.t,fun s hs=>by rw [less_names]; exact h.n s hs⟩
theorem less_new (r:Rules)(lost:List (List Int))(l:List gZ):dI r (less lost l)=dI r l:=by
  have e1:trI (less lost l)=trI l:=by unfold trI; rw [less_names]
  have e2:densI (less lost l)=densI l:=less_map _ _ _ fun _ _=>rfl
  have mk:MkR r (less lost l)=MkR r l:=by
    funext i
    unfold MkR
    rw [e1,e2]
  unfold dI mvN rlN
  rw [mk,less_len]
theorem less_tel (lost : List (List Int)) (l : List gZ) (a : Int) (k : Nat) : pw honT (tel l a k) (tel (less lost l) a k) := by
  refine ⟨by rw [tel_len, tel_len, less_len], fun i x x' hx hx' => ?_⟩
  unfold tel at hx hx'
  rw [List.getElem?_map, Option.map_eq_some_iff] at hx hx'
  obtain ⟨t, ht, rfl⟩ := hx
  obtain ⟨t', ht', rfl⟩ := hx'
  obtain ⟨u, hu, rfl⟩ := less_get' ht'
  rw [ht] at hu
  obtain rfl := Option.some.inj hu
  rcases hld_less (s := t.Series) (lostS_pw (lost.getD i []) t.Series.Samples) (64 * (a + (k : Int)) + 63) t.Long with q | q
  · left; exact q
  · right
    unfold inT
    show fO.mk (hld (Series.mk t.Series.Den (lostS (lost.getD i []) t.Series.Samples)) _ t.Long).1.N (hld (Series.mk t.Series.Den (lostS (lost.getD i []) t.Series.Samples)) _ t.Long).2 = _
    rw [q]
theorem hn_self {r : Rules} {l : List gZ} (h : GB r l) : HnW (dI r l) (dI r l) := by
  have g := h.g
  refine ⟨rfl, rfl, fun i x x' hx hx' => ?_, rfl, fun i k k' hk hk' => ?_, sbs_refl _, fun q => ?_⟩
  · rw [hx] at hx'
    obtain rfl := Option.some.inj hx'
    obtain ⟨m, hm, rfl⟩ := List.mem_map.1 (List.mem_of_getElem? hx)
    exact ⟨rfl, rfl, mkN_hn _ _ _ (Nat.le_refl _) (g.mg m hm).1⟩
  · rw [hk] at hk'
    obtain rfl := Option.some.inj hk'
    change (r.Rules.mapIdx (rlN r l))[i]? = some k at hk
    rw [List.getElem?_mapIdx, Option.map_eq_some_iff] at hk
    obtain ⟨x, hx, rfl⟩ := hk
    exact mkN_hn _ _ _ (Nat.le_refl _) (g.lg x (List.mem_of_getElem? hx)).1
  · refine ⟨0, ?_⟩
    show ((List.replicate r.Phases.length false).set 0 true)[0]? = some true
    have : 0 < r.Phases.length := by
      apply Nat.pos_of_ne_zero
      intro e
      apply q
      show (List.replicate r.Phases.length false).set 0 true = []
      rw [e]; rfl
    rw [List.getElem?_set, if_pos rfl, if_pos (by simpa using this)]
theorem honest_run {r:Rules}{l:List gZ}(h:GB r l)(lost:List (List Int))(a:Int)(n:Nat):
    sbs (runT (tel l a) (dI r l) n).2.possible (runT (tel (less lost l) a) (dI r (less lost l)) n).2.possible∧
    pw hon (nxt (tel l a n) (runT (tel l a) (dI r l) n).2).1 (nxt (tel (less lost l) a n) (runT (tel (less lost l) a) (dI r (less lost l)) n).2).1:=by
  have w0:=newW_wf h
  rw [less_new]
  have q:=hnW_run (f:=tel l a) (g:=tel (less lost l) a) w0 w0 (hn_self h) (tel_len l a) (less_tel lost l a) (fun k x hx=>(tel_tol h.t a k x hx).2) (fun k x hx=>(tel_tol (less_trk h.t) a k x hx).2) n
  exact ⟨q.1.po,q.2⟩
end Go.Lf
namespace Go.Lf
open Go.OB
set_option maxRecDepth 1000000 in
theorem facts_true:Fcs=some true:=by kernel_rfl
end Go.Lf
namespace Go.Lf
open Go.OB
theorem ho_L2 (lost : List (List Int)) (hl : okL (fun x => okL (fun y => i64 y) x) lost) (i : Nat) (hi : i ≤ 1000) (s : List fJ) (hs : s.length ≤ 20000) : Fc4 lost (i : Int) (0, s) = some (lostS (lost.getD i []) s) := by
  have hlo : (lost.getD i []).length ≤ 9223372036854775807 := by
    rw [List.getD_eq_getElem?_getD]
    cases h : lost[i]? with
    | none => exact Nat.zero_le _
    | some x => exact (hl.2 x (List.mem_of_getElem? h)).1
  have hll := hl.1
  have sl : ∀ k, (lostS ((lost.getD i []).take k) s).length = s.length := fun k => ((lostS_pw _ s).1).symm
  have cond : ∀ k : Nat, k ≤ (lost.getD i []).length → ∀ K : Bool → Option (List fJ), (gB (gJ (lost.length : Int) fun x3175 => gJ (decide ((i : Int) < x3175)) fun x3180 => gK x3180 (gB (at' lost (i : Int)) fun x3183 => gJ (x3183.length : Int) fun x3198 => gJ (decide ((k : Int) < x3198)) fun x3203 => some x3203) (some false)) K) = K (decide (k < (lost.getD i []).length)) := by
    intro k hk K
    simp only [zU]
    rw [List.getD_eq_getElem?_getD] at hk ⊢
    cases h : lost[i]? with
    | none =>
      rw [List.getElem?_eq_none_iff] at h
      rw [decide_eq_false (by omega : ¬ (i : Int) < (lost.length : Int)), yQ, zQ]
      rfl
    | some x =>
      have hx := (List.getElem?_eq_some_iff.1 h).1
      rw [decide_eq_true (by omega : (i : Int) < (lost.length : Int)), yP, wF h]
      simp only [zQ, Option.getD_some]
      congr 1
      exact decide_eq_decide.2 (by omega)
  unfold Fc4
  refine dE (fun (k : Nat) => ((k : Int), lostS ((lost.getD i []).take k) s)) (lost.getD i []) (some (lostS (lost.getD i []) s)) hlo ?_ ?_
  · intro kk k n hn hk
    have c := cond k (by omega)
    simp only [zU] at c ⊢
    rw [c, decide_eq_true hk, yP]
    obtain ⟨x, hx⟩ : ∃ x, lost[i]? = some x := by
      rw [List.getD_eq_getElem?_getD] at hk
      cases h : lost[i]? with
      | none => rw [h] at hk; simp at hk
      | some x => exact ⟨x, rfl⟩
    have hg : lost.getD i [] = x := by rw [List.getD_eq_getElem?_getD, hx]; rfl
    rw [hg] at hn hk
    have tk : lostS ((lost.getD i []).take (k + 1)) s = (match at' (lostS ((lost.getD i []).take k) s) n with | some y => (lostS ((lost.getD i []).take k) s).set n.toNat (lost1 y) | none => lostS ((lost.getD i []).take k) s) := by
      rw [hg, tk_snoc hn]
      unfold lostS
      rw [List.foldl_append]
      rfl
    rw [wF hx, zQ, wF hn, zQ, eH hk (by rw [← hg]; exact hlo)]
    rw [tk]
    have hlen := sl k
    generalize lostS ((lost.getD i []).take k) s = cur at hlen ⊢
    by_cases c1 : 0 ≤ n
    · by_cases c2 : n < (cur.length : Int)
      · obtain ⟨y, hy⟩ := at_ex (l := cur) (i := n) ⟨c1, c2⟩
        rw [decide_eq_true c1, yP, decide_eq_true c2, zQ, yP, hy, zQ, zQ, set_ok ⟨c1, c2⟩, zQ, zQ]
        rfl
      · have hy : at' cur n = none := by unfold at'; rw [if_pos c1]; exact List.getElem?_eq_none (by omega)
        rw [decide_eq_true c1, yP, decide_eq_false c2, zQ, yQ, zQ, hy]
    · have hy : at' cur n = none := by unfold at'; rw [if_neg c1]
      rw [decide_eq_false c1, yQ, zQ, yQ, zQ, hy]
  · intro kk
    have c := cond (lost.getD i []).length (Nat.le_refl _)
    simp only [zU] at c ⊢
    rw [c, decide_eq_false (by omega), yQ, List.take_length]
theorem ho_L1 (lost : List (List Int)) (hl : okL (fun x => okL (fun y => i64 y) x) lost) (l : List gZ) (h : trkC l = 0) : Fdk l lost ([], 0) = some (less lost l) := by
  obtain ⟨g1, g2⟩ := good_trk h
  unfold Fdk
  refine dE (fun (i : Nat) => ((less lost l).take i, (i : Int))) l (some (less lost l)) (by omega) ?_ ?_
  · intro kk i x hx hi
    have sl := (g2 i x hx).2.1
    have hx2 : (less lost l)[i]? = some (lessT lost i x) := less_get hx
    have a56 : app' 56 ((less lost l).take i) [lessT lost i x] = some ((less lost l).take i ++ [lessT lost i x]) := by
      unfold app'
      rw [if_pos ⟨by rw [maxLen_eq]; simp; omega, by simp; omega⟩]
    simp only [zU]
    rw [xZ hi, yP, wF hx, zQ, app_nil (by decide) (by omega), zQ, ho_L2 lost hl i (by omega) _ sl, zQ]
    show gB (gB (app' 56 ((less lost l).take i) [lessT lost i x]) _) _ = _
    rw [a56, zQ, zQ, eH hi (by omega), tk_snoc hx2]
  · intro kk
    simp only [zU]
    rw [wB, yQ, List.take_of_length_le (by rw [less_len]; exact Nat.le_refl _)]
section
variable {r:Rules} {l:List gZ} {lost:List (List Int)} {a b:Int}
theorem ho_L4 (h : GB r l) (hs : spanE a b = 0) (i : Nat) (hi : i < r.Rules.length) (K : Unit → Option Bool) :
    Fc7 (evV r l a b) (evV r (less lost l) a b) (i : Int) K 0 = K () := by
  obtain ⟨s1, s2, s3, s4⟩ := span_ok hs
  have hn : spn a b = (b - a + 1).toNat := rfl
  obtain ⟨c0, y0, d1, d2, -, -⟩ := evV_at (l := l) (a := a) (b := b) hi (k := 0) (by omega)
  unfold Fc7
  refine dE (fun (k : Nat) => (k : Int)) (List.replicate (spn a b) ()) (K ()) (by simp; omega) ?_ ?_
  · intro kk k u hu hk
    rw [List.length_replicate] at hk
    obtain ⟨c, y, c1, c2, c3, c4⟩ := evV_at (l := l) (a := a) (b := b) hi (k := k) hk
    obtain ⟨c', y', c1', c2', c3', c4'⟩ := evV_at (l := less lost l) (a := a) (b := b) hi (k := k) hk
    have q : hon y y' := (honest_run h lost a k).2.2 i y y' c4 c4'
    simp only [zU]
    rw [wF c1, zQ, wF c1', c2, xZ hk, yP]
    simp only [zQ]
    rw [wF c3', zQ, wF c3]
    simp only [zQ]
    rw [eH (n := 20000) (by omega) (by omega)]
    rcases q with rfl | rfl
    · simp only [ne_eq, not_true_eq_false, decide_false, yQ, zQ]
    · by_cases z : y' = 0
      · subst z; simp only [ne_eq, not_true_eq_false, decide_false, yQ, zQ]
      · rw [decide_eq_true z, yP, zQ]
        simp only [ne_eq, not_true_eq_false, decide_false, yQ]
  · intro kk
    rw [List.length_replicate]
    simp only [zU]
    rw [wF d1, zQ, d2, wB, yQ]
theorem ho_L3 (h : GB r l) (hs : spanE a b = 0) (K : Unit → Option Bool) : Fdd (evV r l a b) (evV r (less lost l) a b) K 0 = K () := by
  obtain ⟨s1, s2, s3, s4⟩ := span_ok hs
  have hn : spn a b = (b - a + 1).toNat := rfl
  have hl := h.g.l
  have l1 : (evV r l a b).length = r.Rules.length := cols_len _ _
  unfold Fdd
  refine dE (fun (i : Nat) => (i : Int)) (List.replicate r.Rules.length ()) (K ()) (by simp; omega) ?_ ?_
  · intro kk i u hu hi
    rw [List.length_replicate] at hi
    obtain ⟨c, y, c1, c2, -, -⟩ := evV_at (l := l) (a := a) (b := b) hi (k := 0) (by omega)
    obtain ⟨c', y', c1', c2', -, -⟩ := evV_at (l := less lost l) (a := a) (b := b) hi (k := 0) (by omega)
    simp only [zU, wK]
    rw [l1, xZ hi, yP, wF c1, wF c1', zQ, zQ, c2, c2']
    simp only [ne_eq, not_true_eq_false, decide_false, yQ]
    rw [ho_L4 h hs i hi, eH hi (by omega)]
  · intro kk
    rw [List.length_replicate]
    simp only [zU]
    rw [l1, wB, yQ]
theorem evP_at (k:Nat)(hk:k<spn a b):(evP r l a b)[k]? =some (phL (runT (tel l a) (dI r l) (k+1)).2.possible r.Phases):=by
  unfold evP
  rw [List.getElem?_map,List.getElem?_range hk]; rfl
theorem ho_L7 (p q : List (List Str)) (t k : Nat) (P Q : List Str) (x : Str) (hp : p[t]? = some P) (hq : q[t]? = some Q) (hx : P[k]? = some x) (hQ : Q.length ≤ 1000) :
    Fdh p q (t : Int) (k : Int) (false, 0) = some (Q.any fun y => decide (y = x)) := by
  unfold Fdh
  refine dE (fun (n : Nat) => ((Q.take n).any (fun y => decide (y = x)), (n : Int))) Q (some (Q.any fun y => decide (y = x))) (by omega) ?_ ?_
  · intro kk n y hy hn
    simp only [zU]
    rw [wF hq, zQ, xZ hn, yP, zQ, wF hy, zQ, wF hp, zQ, wF hx, zQ, eH hn (by omega), tk_snoc hy, List.any_append]
    cases (Q.take n).any fun y => decide (y = x)
    · rw [yQ, zQ]; simp
    · rw [yP, zQ]; simp
  · intro kk
    simp only [zU]
    rw [wF hq, zQ, wB, yQ, List.take_length]
theorem ho_L6 (h : GB r l) (hs : spanE a b = 0) (t : Nat) (ht : t < spn a b) (K : Unit → Option Bool) :
    Fc8 (evP r l a b) (evP r (less lost l) a b) (t : Int) K 0 = K () := by
  have hp := h.g.p
  have p1 := evP_at (r := r) (l := l) (a := a) (b := b) t ht
  have q1 := evP_at (r := r) (l := less lost l) (a := a) (b := b) t ht
  have s := (honest_run h lost a (t + 1)).1
  generalize (runT (tel l a) (dI r l) (t + 1)).2.possible = ps at p1 s
  generalize (runT (tel (less lost l) a) (dI r (less lost l)) (t + 1)).2.possible = qs at q1 s
  have pl := phL_len ps r.Phases
  have ql := phL_len qs r.Phases
  unfold Fc8
  refine dE (fun (k : Nat) => (k : Int)) (phL ps r.Phases) (K ()) (by omega) ?_ ?_
  · intro kk k x hx hk
    have e : ((phL qs r.Phases).any fun y => decide (y = x)) = true := by
      obtain ⟨i, i1, i2⟩ := (phL_mem ps r.Phases x).1 (List.mem_of_getElem? hx)
      rw [List.any_eq_true]
      exact ⟨x, (phL_mem qs r.Phases x).2 ⟨i, s.2 i i1, i2⟩, by simp⟩
    simp only [zU, wK]
    rw [wF p1, zQ, xZ hk, yP, ho_L7 _ _ t k _ _ x p1 q1 hx (by omega), e, zQ, Bool.not_true, yQ, eH hk (by omega)]
  · intro kk
    simp only [zU]
    rw [wF p1, zQ, wB, yQ]
theorem ho_L5 (h : GB r l) (hs : spanE a b = 0) : Fdb (evP r l a b) (evP r (less lost l) a b) (fun _ => some true) 0 = some true := by
  obtain ⟨s1, s2, s3, s4⟩ := span_ok hs
  have hn : spn a b = (b - a + 1).toNat := rfl
  have l1 : (evP r l a b).length = spn a b := by unfold evP; simp
  unfold Fdb
  refine dE (fun (i : Nat) => (i : Int)) (List.replicate (spn a b) ()) (some true) (by simp; omega) ?_ ?_
  · intro kk i u hu hi
    rw [List.length_replicate] at hi
    simp only [zU, wK]
    rw [l1, xZ hi, yP, ho_L6 h hs i hi, eH (n := 20000) (by omega) (by omega)]
  · intro kk
    rw [List.length_replicate]
    simp only [zU]
    rw [l1, wB, yQ]
end
theorem less_ok {lost:List (List Int)}{l:List gZ}(hl:okL (fun x=>okTrack x) l)(h:trkC l=0):okL (fun x=>okTrack x) (less lost l):=by
  refine ⟨by rw [less_len]; exact hl.1,fun y hy=>?_⟩
  obtain ⟨i,hi⟩:=List.getElem?_of_mem hy
  obtain ⟨x,hx,rfl⟩:=less_get' hi
  obtain ⟨q1,⟨q2,q3,q4⟩,q5⟩:=hl.2 x (List.mem_of_getElem? hx)
  have pwl:=lostS_pw (lost.getD i []) x.Series.Samples
  refine ⟨q1,⟨q2,by show (lostS _ _).length≤_; rw [← pwl.1]; exact q3,fun s hs=>?_⟩,q5⟩
  change s ∈ lostS (lost.getD i []) x.Series.Samples at hs
  obtain ⟨j,hj⟩:=List.getElem?_of_mem hs
  obtain ⟨s0,h0⟩: ∃s0,x.Series.Samples[j]? =some s0:=⟨_,List.getElem?_eq_getElem (by rw [pwl.1]; exact (List.getElem?_eq_some_iff.1 hj).1)⟩
  have o:=q4 s0 (List.mem_of_getElem? h0)
  rcases pwl.2 j s0 s h0 hj with rfl | rfl
  · exact o
  · exact ⟨o.1,i0,i0⟩
theorem gb_bothE {r:Rules}{l:List gZ}(h:GB r l):bothE r l=0:=by
  unfold bothE
  rw [h.c,Option.getD_some,if_neg (by simp),h.t,if_neg (by simp),if_pos]
  rw [List.all_eq_true]
  intro s hs
  unfold trkN at hs
  rw [puts_mem] at hs
  obtain ⟨t,t1,t2⟩:=List.mem_map.1 (h.n s (hs.resolve_left (by simp)))
  rw [List.any_eq_true]
  exact ⟨t,t1,by simpa using t2⟩
theorem law_Honest (r : Rules) (l : List gZ) (lost : List (List Int)) (a b : Int) (hr : okRules r) (hl : okL (fun x => okTrack x) l) (hlo : okL (fun x => okL (fun y => i64 y) x) lost) (ha : i64 a) (hb : i64 b) (hn : r.Rules.length ≤ 2000000) : Fc3 r l lost a b = some true := by
  have e1 := Evaluate_eq hr hl hn ha hb
  unfold Fc3
  rw [facts_true, zQ]
  simp only [zU, Bool.not_true, yQ]
  by_cases z : evE r l a b = 0
  · obtain ⟨g, s⟩ := ev_gb hr z
    have g' := less_gb (lost := lost) g
    have hl' := less_ok (lost := lost) hl g.t
    have z' : evE r (less lost l) a b = 0 := by unfold evE; rw [gb_bothE g', if_neg (by simp)]; exact s
    have e2 := Evaluate_eq hr hl' hn ha hb
    have e3 := Phases_eq hr hl ha hb
    have e4 := Phases_eq hr hl' ha hb
    rw [if_pos z] at e1 e3
    rw [if_pos z'] at e2 e4
    have l1 : (evV r l a b).length = r.Rules.length := cols_len _ _
    have l2 : (evV r (less lost l) a b).length = r.Rules.length := cols_len _ _
    have l3 : (evP r l a b).length = spn a b := by unfold evP; simp
    have l4 : (evP r (less lost l) a b).length = spn a b := by unfold evP; simp
    rw [e1, zQ]
    simp only [ne_eq, not_true_eq_false, decide_false, yQ]
    rw [ho_L1 lost hlo l g.t, zQ, e2, e3, e4]
    simp only [zQ, not_true_eq_false, decide_false, yQ, l1, l2, l3, l4, wK]
    rw [ho_L3 g s, ho_L5 g s]
  · rw [if_neg z] at e1
    rw [e1, zQ]
    simp only [ne_eq, z, not_false_eq_true, decide_true, yP]
end Go.Lf
