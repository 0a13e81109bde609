/- Walks: what each function computes, for every argument; no condition but those that stand in the statements. -/
import Derived.Test.YtckmiljbaejijaaGreatDoorEVa
namespace Go.Lf
open Go.OB
theorem cols_at {m:Nat}{rows:List (List Int)}{i k:Nat}(hi:i<m)(hk:k<rows.length): ∃c,(cols m rows)[i]? =some c∧c.length=rows.length∧c[k]? =some (rows[k].getD i 0):=
  ⟨_,aFo hi,by rw [List.length_map],by rw [List.getElem?_map,List.getElem?_eq_getElem hk]; rfl⟩
end Go.Lf
namespace Go.Lf
open Go.OB
theorem evV_at {r:Rules}{l:List fG}{a b:Int}{i k:Nat}(hi:i<r.Rules.length)(hk:k<spn a b): ∃c x,(evV r l a b)[i]? =some c∧c.length=spn a b∧c[k]? =some x∧(nxt (tel l a k) (runT (tel l a) (bV r l) k).2).1[i]? =some x:=by
  have rl:=aAm (tel l a) (bV r l) (spn a b)
  have rg:=aLp (tel l a) (bV r l) (spn a b) k hk
  obtain ⟨c,c1,c2,c3⟩:=cols_at (m:=r.Rules.length) (rows:=(runT (tel l a) (bV r l) (spn a b)).1) hi (k:=k) (by rw [rl]; exact hk)
  have rk:(runT (tel l a) (bV r l) (spn a b)).1[k]'(by rw [rl]; exact hk)=(nxt (tel l a k) (runT (tel l a) (bV r l) k).2).1:=by
    rw [List.getElem?_eq_getElem (by rw [rl]; exact hk)] at rg
    exact Option.some.inj rg
  rw [rk] at c3
  have vl:(nxt (tel l a k) (runT (tel l a) (bV r l) k).2).1.length=r.Rules.length:=by rw [(jW _ _).1,aPo]
  refine ⟨c,_,c1,by rw [c2,rl],c3,?_⟩
  rw [List.getD_eq_getElem?_getD,List.getElem?_eq_getElem (by omega)]; rfl
theorem dp_loop1 {r : Rules} {l : List fG} (ok : okL pJ l) (okr : okR r) (h : GB r l) {a b : Int} (ha : i64 a) (hb : i64 b) (hs : vN a b = 0) :
    Fdk r l a b (dsN r r.Rules.length) (evV r l a b) (fun _ => gG Fbl fun x => some x) 0 = some true := by
  obtain ⟨s1, s2, s3, s4⟩ := aRh hs
  have hn : spn a b = (b - a + 1).toNat := rfl
  have hl := h.g.l
  have dl := jH r r.Rules.length (Nat.le_refl _)
  obtain ⟨hD, hB⟩ := aIt h r.Rules.length (Nat.le_refl _)
  have w0 := aQy h
  unfold Fdk
  refine (aH (fun (i : Nat) => (i : Int)) (List.replicate r.Rules.length ()) (some true) (by simp; omega) ?_ ?_)
  · intro kk i x hx hi
    rw [List.length_replicate] at hi
    obtain ⟨d, hd⟩ : ∃ d, (dsN r r.Rules.length)[i]? = some d := ⟨_, List.getElem?_eq_getElem (by omega)⟩
    have db := hB d (List.mem_of_getElem? hd)
    have gD : (at' (dsN r r.Rules.length) (i : Int)).getD (-1) = d := by rw [rC, hd]; rfl
    obtain ⟨c, y, c1, c2, c3, c4⟩ := evV_at (l := l) (a := a) (b := b) hi (k := spn a b - 1) (by omega)
    simp only [zU, xY]
    rw [dl, xP hi, yM, wG hd, wG c1]
    simp only [zQ, c2]
    rw [aPy ⟨s1, s2, s3⟩, decide_eq_false (by omega : ¬ ((spn a b : Nat) : Int) ≠ b - a + 1), eQ hi (by omega)]
    by_cases d1 : d < 1
    · rw [decide_eq_true d1, yM, zQ, yM, zQ, yM]
      by_cases d0 : 0 < d
      · omega
      · rw [decide_eq_false d0, yN, zQ, yN]
    · have wd : IntKind.i64.wrap (IntKind.i64.wrap (b - d) + 1) = b - d + 1 := by
        rw [wrap_i64 (n := b - d) (by omega) (by omega), wrap_i64 (by omega) (by omega)]
      rw [decide_eq_false d1, yN, zQ, wd]
      by_cases d2 : b - d + 1 < a
      · rw [decide_eq_true d2, yM, zQ, yM, decide_eq_true (by omega : 0 < d), yM, zQ, yN]
      · rw [decide_eq_false d2, yN, zQ, yN]
        have i2 : i64 (b - d + 1) := ⟨by omega, by omega⟩
        have sp2 : vN (b - d + 1) b = 0 := by unfold vN; rw [if_neg (by omega), if_neg (by omega)]
        have e2 := aCl okr ok (by omega) i2 hb
        have bz : aAx r l = 0 := by
          have := h.n
          unfold aAx
          rw [h.c, Option.getD_some, if_neg (by simp), h.t, if_neg (by simp), if_pos]
          rw [List.all_eq_true]
          intro s hs
          unfold aKk at hs
          rw [aAe] at hs
          obtain ⟨t, t1, t2⟩ := List.mem_map.1 (this s (hs.resolve_left (by simp)))
          rw [List.any_eq_true]
          exact ⟨t, t1, by simpa using t2⟩
        rw [if_pos (by unfold evE; rw [bz, if_neg (by simp)]; exact sp2)] at e2
        have hn2 : spn (b - d + 1) b = d.toNat := by unfold spn; congr 1; omega
        obtain ⟨c', y', c1', c2', c3', c4'⟩ := evV_at (l := l) (a := b - d + 1) (b := b) hi (k := d.toNat - 1) (by omega)
        have yy : y = y' := by
          have q := depth_run (T := l.length) (P := r.Phases.length) hD w0 (newW_dep h) (f := tel l a) (g := tel l (b - d + 1)) (aIr l a) (b - d + 1 - a).toNat (fun k => by
            unfold tel
            rw [show b - d + 1 + (k : Int) = a + (((b - d + 1 - a).toNat + k : Nat) : Int) by omega]) i (d.toNat - 1) (by show i < (r.Rules.mapIdx _).length; simpa using hi) (by rw [gD]; omega)
          rw [show (b - d + 1 - a).toNat + (d.toNat - 1) = spn a b - 1 by omega, c4, c4'] at q
          exact Option.some.inj q
        have l2 : (evV r l (b - d + 1) b).length = r.Rules.length := nN _ _
        rw [e2, zQ]
        simp only [ne_eq, not_true_eq_false, decide_false, yN, l2]
        rw [wG c1']
        simp only [zQ, c2', hn2]
        rw [decide_eq_false (by omega : ¬ ¬ ((d.toNat : Nat) : Int) = d), yN, wrap_i64 (by omega) (by omega), show d - 1 = ((d.toNat - 1 : Nat) : Int) by omega, wG c3', zQ, wrap_i64 (n := b - a) (by omega) (by omega), show b - a = ((spn a b - 1 : Nat) : Int) by omega, wG c3, zQ, yy]
        simp only [not_true_eq_false, decide_false, zQ, yN]
  · intro kk
    rw [List.length_replicate]
    simp only [zU]
    rw [dl, xQ, yN, vV, zQ]
theorem aNs (r : Rules) (l : List fG) (a b : Int) (hr : aIu r) (hl : okL (fun x => pJ x) l) (ha : i64 a) (hb : i64 b) (hn : r.Rules.length ≤ 2000000) : Fde r l a b = some true := by
  have e1 := aCl hr hl hn ha hb
  obtain ⟨e, he⟩ := aDu r
  have okr : okR r := hr
  unfold Fde
  by_cases c : e = 0
  · subst c
    have dp := (Depths_eq okr he).1
    have dl := jH r r.Rules.length (Nat.le_refl _)
    rw [dp, e1, zQ]
    simp only [zQ, zU, ne_eq, not_true_eq_false, decide_false, yN, dl]
    by_cases z : evE r l a b = 0
    · obtain ⟨g, s⟩ := ev_gb okr z
      have l1 : (evV r l a b).length = r.Rules.length := nN _ _
      rw [if_pos z]
      simp only [not_true_eq_false, decide_false, yN, zQ, l1, xY]
      exact dp_loop1 hl okr g ha hb s
    · rw [if_neg z]
      simp only [z, not_false_eq_true, decide_true, yM, zQ, vV]
  · have dp : Fa2 r = some ([], e) := by
      unfold Fa2
      rw [aEp r okr, he, zQ]
      simp only [zU]
      rw [decide_eq_true c, yM]
    rw [dp, e1, zQ]
    simp only [zQ, zU, ne_eq, c, not_false_eq_true, decide_true, yM, vV]
end Go.Lf
