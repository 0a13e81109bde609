/- Vote: both programs answer alike. -/
import Derived.Test.YtgmikmoapfmedaaGreatDoorFVa
namespace Go.Lf
open Go.OB
def vF (e:Int):gV×(List Int)×Int:=(gV.mk [] (Series.mk 0 []) 0,[],e)
def qI (l:List gV)(x y z:Str)(most a b:Int):gV×(List Int)×Int:=
  if vtE l x y z≠0 then vF (vtE l x y z) else if¬(0≤most∧most≤1125899906842624) then vF 9 else if qP a b≠0 then vF (qP a b)
  else (gV.mk x (Series.mk (trk l x).Series.Den (pO (trk l x) (trk l y) (trk l z) most a (spn a b))) 63,outs (trk l x) (trk l y) (trk l z) most a (spn a b),0)
def kL (l:List gV)(ns:List Str)(most a b:Int):gV×(List Int)×Int:=
  if jL l≠0 then vF (jL l) else match ns with
    | [x,y,z]=>qI l x y z most a b
    | _=>vF 2
theorem not3 {l:List gV}{ns:List Str}{most a b:Int}(h:jL l=0)(n3: ¬ns.length=3):kL l ns most a b=vF 2:=by
  unfold kL
  rw [if_neg (by simp [h])]
  match ns,n3 with
  | [],_=>rfl
  | [_],_=>rfl
  | [_,_],_=>rfl
  | [_,_,_],h=>exact absurd rfl h
  | _ :: _ :: _ :: _ :: _,_=>rfl
theorem aFf {l : List gV} {x y z : Str} (h : vtE l x y z = 0) : ¬ fO l x < 0 ∧ ¬ fO l y < 0 ∧ ¬ fO l z < 0 := by
  unfold vtE at h
  split at h
  · exact absurd h (by decide)
  · rename_i c
    simp only [not_or] at c
    exact c
theorem vote_trks {l : List gV} {x y z : Str} (h9 : l.length ≤ 9223372036854775807) (cx : ¬ fO l x < 0) (cy : ¬ fO l y < 0) (cz : ¬ fO l z < 0) : Fcr l [x, y, z] (([x, y, z] : List Str).length : Int) ([], 0) = some [trk l x, trk l y, trk l z] := by
  obtain ⟨ax, -, -⟩ := bF cx
  obtain ⟨ay, -, -⟩ := bF cy
  obtain ⟨az, -, -⟩ := bF cz
  have ap : ∀ (p : List gV) (u : gV), p.length ≤ 1000 → app' 56 p [u] = some (p ++ [u]) := fun p u hp => by
    unfold app'
    rw [if_pos ⟨by rw [Go.OB.maxLen_eq]; simp; omega, by simp; omega⟩]
  unfold Fcr
  refine kG (β := List gV) (γ := List gV × Int) (fun i => (match i with | 0 => [] | 1 => [trk l x] | 2 => [trk l x, trk l y] | _ => [trk l x, trk l y, trk l z], (i : Int))) [x, y, z] (some [trk l x, trk l y, trk l z]) (by simp) ?_ ?_
  · intro kk i u hu hi
    simp only [yA]
    rw [dU hi, yR, dV hu, zL, bC l u h9, zL, bU hi (by simp)]
    match i, hu with
    | 0, hu =>
      obtain rfl : x = u := by simpa using hu
      rw [ax, zL, ap _ _ (by simp), zL]; rfl
    | 1, hu =>
      obtain rfl : y = u := by simpa using hu
      rw [ay, zL, ap _ _ (by simp), zL]; rfl
    | 2, hu =>
      obtain rfl : z = u := by simpa using hu
      rw [az, zL, ap _ _ (by simp), zL]; rfl
    | n + 3, hu => simp at hu
  · intro kk
    simp only [yA]
    rw [dS, xH]
    rfl
theorem Vote_one (l : List gV) (ns : List Str) (most a b : Int) (hl : okL jE l) (hn : ns.length ≤ 9223372036854775807) : Fa5 l ns most a b = some (kL l ns most a b) := by
  have h9 := hl.1
  unfold Fa5
  rw [uI l hl, aAj, zL]
  simp only [yA]
  by_cases t : jL l = 0
  rotate_left
  · rw [decide_eq_true (show jL l ≠ 0 from t), yR]
    unfold kL
    rw [if_pos t]; rfl
  rw [decide_eq_false (by simpa using t), xH]
  by_cases n3 : ns.length = 3
  rotate_left
  · have e : Fan l ns = some 2 := by
      unfold Fan
      simp only [yA]
      rw [decide_eq_true (show (ns.length : Int) ≠ 3 by omega), yR]
    rw [e, zL, decide_eq_true (show (2 : Int) ≠ 0 by decide), yR, not3 t n3]; rfl
  obtain ⟨x, y, z, rfl⟩ := three n3
  have eR : kL l [x, y, z] most a b = qI l x y z most a b := by
    unfold kL
    rw [if_neg (by simp [t])]
  rw [eR, sU l x y z h9, zL]
  unfold qI
  by_cases v : vtE l x y z = 0
  rotate_left
  · rw [decide_eq_true (show vtE l x y z ≠ 0 from v), yR, if_pos v]; rfl
  rw [decide_eq_false (by simpa using v), xH, if_neg (by simpa using v), fwithin, zL]
  by_cases m : 0 ≤ most ∧ most ≤ 1125899906842624
  rotate_left
  · rw [if_pos m]
    have e : (!(decide (0 ≤ most) && decide (most ≤ 1125899906842624))) = true := by
      by_cases m1 : 0 ≤ most
      · have m2 : ¬ most ≤ 1125899906842624 := fun h => m ⟨m1, h⟩
        rw [decide_eq_false m2]; simp
      · rw [decide_eq_false m1]; rfl
    rw [e, yR]; rfl
  rw [decide_eq_true m.1, decide_eq_true m.2, if_neg (not_not_intro m)]
  rw [show (!(true && true)) = false from rfl, xH, aAn, zL]
  by_cases s : qP a b = 0
  rotate_left
  · rw [decide_eq_true (show qP a b ≠ 0 from s), yR, if_pos s]; rfl
  rw [decide_eq_false (by simpa using s), xH, if_neg (by simpa using s)]
  have hs := aDk s
  obtain ⟨cx, cy, cz⟩ := aFf v
  obtain ⟨-, mx, -⟩ := bF cx
  obtain ⟨-, my, -⟩ := bF cy
  obtain ⟨-, mz, -⟩ := bF cz
  rw [Go.OB.wrap_i64 (n := b - a) (by omega) (by omega), Go.OB.wrap_i64 (n := b - a + 1) (by omega) (by omega), decide_eq_false (by omega : ¬ 20000 < b - a + 1), xH]
  rw [vote_trks h9 cx cy cz, zL, show at' ([x, y, z] : List Str) 0 = some x from rfl, zL, show at' ([trk l x, trk l y, trk l z] : List gV) 0 = some (trk l x) from rfl, zL, show make' 8 3 (0 : Int) = some [0, 0, 0] from rfl, zL, L2_vote t mx my mz m hs, zL]
theorem tN {α β:Type}(p:α→Bool)(r fin:Option β): ∀(l:List α) (i:Nat),bI (fun _ u=>if p u=true then some r else none) fin l i=if l.any p=true then r else fin
  | [],_=>by simp [bI]
  | u :: l,i=>by
    rw [bI]
    cases h:p u
    · simp [h,tN p r fin l (i+1)]
    · simp [h]
theorem rV_L1 (l : List gV) (x y z : Str) (h9 : l.length ≤ 9223372036854775807) (k : Unit → Option (gV × (List Int) × Int)) : Fb4 l [x, y, z] k 0 = if fO l x < 0 ∨ fO l y < 0 ∨ fO l z < 0 then some (vF 4) else k () := by
  unfold Fb4
  refine (tY (if fO l x < 0 then some (some (vF 4)) else none) (if fO l y < 0 then some (some (vF 4)) else none) (if fO l z < 0 then some (some (vF 4)) else none) (k ()) ?_ ?_ ?_ (fun kk => rfl)).trans ?_
  · intro kk
    simp only [yA]
    rw [decide_eq_true (by decide : (0 : Int) < 3), yR, show at' ([x, y, z] : List Str) 0 = some x from rfl, zL, bQ l x h9, zL]
    by_cases c : fO l x < 0
    · rw [if_pos c, decide_eq_true c]; rfl
    · rw [if_neg c, decide_eq_false c]; rfl
  · intro kk
    simp only [yA]
    rw [decide_eq_true (by decide : (1 : Int) < 3), yR, show at' ([x, y, z] : List Str) 1 = some y from rfl, zL, bQ l y h9, zL]
    by_cases c : fO l y < 0
    · rw [if_pos c, decide_eq_true c]; rfl
    · rw [if_neg c, decide_eq_false c]; rfl
  · intro kk
    simp only [yA]
    rw [decide_eq_true (by decide : (2 : Int) < 3), yR, show at' ([x, y, z] : List Str) 2 = some z from rfl, zL, bQ l z h9, zL]
    by_cases c : fO l z < 0
    · rw [if_pos c, decide_eq_true c]; rfl
    · rw [if_neg c, decide_eq_false c]; rfl
  by_cases cx : fO l x < 0
  · rw [if_pos (Or.inl cx), if_pos cx, jF]
  by_cases cy : fO l y < 0
  · rw [if_pos (Or.inr (Or.inl cy)), if_neg cx, if_pos cy, dD, jF]
  by_cases cz : fO l z < 0
  · rw [if_pos (Or.inr (Or.inr cz)), if_neg cx, if_neg cy, if_pos cz, dD, dD, jF]
  rw [if_neg cx, if_neg cy, if_neg cz, if_neg (by simp [cx, cy, cz]), dD, dD, dD]
theorem rV_L3 {ns : List Str} {g : Nat} {w : Str} (hg : ns[g]? = some w) (hn : ns.length ≤ 1000) (k : Unit → Option (gV × (List Int) × Int)) : Fcu ns (g : Int) k 0 = if (ns.take g).any (fun u => decide (u = w)) = true then some (vF 5) else k () := by
  have hlt : g < ns.length := (List.getElem?_eq_some_iff.1 hg).1
  have hle : (ns.take g).length = g := by simp; omega
  unfold Fcu
  refine (dA (ns.take g) (fun _ u => if decide (u = w) = true then some (some (vF 5)) else none) (k ()) (by omega) ?_ ?_).trans (tN _ _ _ _ _)
  · intro kk i u hu hi
    have hi2 : i < g := by omega
    have hu2 : ns[i]? = some u := by rw [List.getElem?_take] at hu; rw [if_pos hi2] at hu; exact hu
    simp only [yA]
    rw [decide_eq_true (by omega : (i : Int) < (g : Int)), yR, dV hu2, zL, dV hg, zL, bU hi (by omega)]
    cases decide (u = w) <;> rfl
  · intro kk
    simp only [yA]
    rw [hle, decide_eq_false (by omega : ¬ (g : Int) < (g : Int)), xH]
theorem rV_L2 (x y z : Str) (k : Unit → Option (gV × (List Int) × Int)) : Fcn [x, y, z] k 0 = if x = y ∨ x = z ∨ y = z then some (vF 5) else k () := by
  unfold Fcn
  refine (tY none (if x = y then some (some (vF 5)) else none) (if x = z ∨ y = z then some (some (vF 5)) else none) (k ()) ?_ ?_ ?_ (fun kk => rfl)).trans ?_
  · intro kk
    simp only [yA, dF]
    rw [decide_eq_true (by decide : (0 : Int) < 3), yR]
    exact (rV_L3 (ns := [x, y, z]) (g := 0) (w := x) rfl (by simp) _).trans rfl
  · intro kk
    simp only [yA, dF]
    rw [decide_eq_true (by decide : (1 : Int) < 3), yR]
    refine (rV_L3 (ns := [x, y, z]) (g := 1) (w := y) rfl (by simp) _).trans ?_
    by_cases c : x = y
    · rw [if_pos c, if_pos (by simp [c])]; rfl
    · rw [if_neg c, if_neg (by simp [c])]; rfl
  · intro kk
    simp only [yA, dF]
    rw [decide_eq_true (by decide : (2 : Int) < 3), yR]
    refine (rV_L3 (ns := [x, y, z]) (g := 2) (w := z) rfl (by simp) _).trans ?_
    by_cases c : x = z ∨ y = z
    · rw [if_pos c, if_pos (by rcases c with rfl | rfl <;> simp)]; rfl
    · rw [if_neg c, if_neg (by simp only [not_or] at c; simp [c.1, c.2])]; rfl
  by_cases c1 : x = y
  · rw [if_pos (Or.inl c1), if_pos c1, dD, jF]
  by_cases c2 : x = z ∨ y = z
  · rw [if_pos (Or.inr c2), if_neg c1, if_pos c2, dD, dD, jF]
  rw [if_neg c1, if_neg c2, if_neg (by simp only [not_or] at c2 ⊢; exact ⟨c1, c2⟩), dD, dD, dD]
theorem rV_L4 {l : List gV} {x y z : Str} (h9 : l.length ≤ 9223372036854775807) (cx : ¬ fO l x < 0) (cy : ¬ fO l y < 0) (cz : ¬ fO l z < 0) (k : Unit → Option (gV × (List Int) × Int)) : Fcg l [x, y, z] (trk l x) k 0 = if (trk l x).Series.Den ≠ (trk l y).Series.Den ∨ (trk l x).Series.Den ≠ (trk l z).Series.Den then some (vF 2) else k () := by
  obtain ⟨ax, -, -⟩ := bF cx
  obtain ⟨ay, -, -⟩ := bF cy
  obtain ⟨az, -, -⟩ := bF cz
  unfold Fcg
  refine (tY none (if (trk l x).Series.Den ≠ (trk l y).Series.Den then some (some (vF 2)) else none) (if (trk l x).Series.Den ≠ (trk l z).Series.Den then some (some (vF 2)) else none) (k ()) ?_ ?_ ?_ (fun kk => rfl)).trans ?_
  · intro kk
    simp only [yA]
    rw [decide_eq_true (by decide : (0 : Int) < 3), yR, show at' ([x, y, z] : List Str) 0 = some x from rfl, zL, bQ l x h9, zL, ax, zL, decide_eq_false (by simp)]
    rfl
  · intro kk
    simp only [yA]
    rw [decide_eq_true (by decide : (1 : Int) < 3), yR, show at' ([x, y, z] : List Str) 1 = some y from rfl, zL, bQ l y h9, zL, ay, zL]
    by_cases c : (trk l x).Series.Den = (trk l y).Series.Den
    · rw [decide_eq_false (by simp [c]), if_neg (by simp [c])]; rfl
    · rw [decide_eq_true (show (trk l y).Series.Den ≠ (trk l x).Series.Den from fun h => c h.symm), if_pos c]; rfl
  · intro kk
    simp only [yA]
    rw [decide_eq_true (by decide : (2 : Int) < 3), yR, show at' ([x, y, z] : List Str) 2 = some z from rfl, zL, bQ l z h9, zL, az, zL]
    by_cases c : (trk l x).Series.Den = (trk l z).Series.Den
    · rw [decide_eq_false (by simp [c]), if_neg (by simp [c])]; rfl
    · rw [decide_eq_true (show (trk l z).Series.Den ≠ (trk l x).Series.Den from fun h => c h.symm), if_pos c]; rfl
  by_cases d1 : (trk l x).Series.Den ≠ (trk l y).Series.Den
  · rw [if_pos (Or.inl d1), if_pos d1, dD, jF]
  · by_cases d2 : (trk l x).Series.Den ≠ (trk l z).Series.Den
    · rw [if_pos (Or.inr d2), if_neg d1, if_pos d2, dD, dD, jF]
    · rw [if_neg d1, if_neg d2, if_neg (by simp only [not_or]; exact ⟨d1, d2⟩), dD, dD, dD]
theorem Vote_two (l : List gV) (ns : List Str) (most a b : Int) (hl : okL jE l) (hn : ns.length ≤ 9223372036854775807) : Fax l ns most a b = some (kL l ns most a b) := by
  have h9 := hl.1
  unfold Fax
  rw [sD l hl, aAj, zL]
  simp only [yA, dF]
  by_cases t : jL l = 0
  rotate_left
  · rw [decide_eq_true (show jL l ≠ 0 from t), yR]
    unfold kL
    rw [if_pos t]; rfl
  rw [decide_eq_false (by simpa using t), xH]
  by_cases n3 : ns.length = 3
  rotate_left
  · rw [decide_eq_true (show (ns.length : Int) ≠ 3 by omega), yR, not3 t n3]; rfl
  obtain ⟨x, y, z, rfl⟩ := three n3
  have eR : kL l [x, y, z] most a b = qI l x y z most a b := by
    unfold kL
    rw [if_neg (by simp [t])]
  rw [eR, decide_eq_false (by simp : ¬ ((([x, y, z] : List Str).length : Int) ≠ 3)), xH, rV_L1 l x y z h9]
  unfold qI
  by_cases t4 : fO l x < 0 ∨ fO l y < 0 ∨ fO l z < 0
  · have v : vtE l x y z = 4 := by unfold vtE; rw [if_pos t4]
    rw [if_pos t4, v, if_pos (by decide)]
  rw [if_neg t4, rV_L2]
  by_cases t5 : x = y ∨ x = z ∨ y = z
  · have v : vtE l x y z = 5 := by unfold vtE; rw [if_neg t4, if_pos t5]
    rw [if_pos t5, v, if_pos (by decide)]
  have t4' := t4
  simp only [not_or] at t4'
  obtain ⟨cx, cy, cz⟩ := t4'
  obtain ⟨ax, -, -⟩ := bF cx
  rw [if_neg t5, show at' ([x, y, z] : List Str) 0 = some x from rfl, zL, bQ l x h9, zL, ax, zL, rV_L4 h9 cx cy cz]
  by_cases t2 : (trk l x).Series.Den ≠ (trk l y).Series.Den ∨ (trk l x).Series.Den ≠ (trk l z).Series.Den
  · have v : vtE l x y z = 2 := by unfold vtE; rw [if_neg t4, if_neg t5, if_pos t2]
    rw [if_pos t2, v, if_pos (by decide)]
  have v : vtE l x y z = 0 := by unfold vtE; rw [if_neg t4, if_neg t5, if_neg t2]
  rw [if_neg t2, v, if_neg (by decide), out7, zL]
  by_cases m : 0 ≤ most ∧ most ≤ 1125899906842624
  rotate_left
  · rw [if_pos m]
    have e : (decide (most < 0) || decide (1125899906842624 < most)) = true := by
      simp only [Bool.or_eq_true, decide_eq_true_eq]; omega
    rw [e, yR]; rfl
  have e : (decide (most < 0) || decide (1125899906842624 < most)) = false := by
    simp only [Bool.or_eq_false_iff, decide_eq_false_iff_not]; omega
  rw [if_neg (not_not_intro m), e, xH, uK, zL]
  by_cases s : qP a b = 0
  rotate_left
  · rw [decide_eq_true (show qP a b ≠ 0 from s), yR, if_pos s]; rfl
  rw [decide_eq_false (by simpa using s), xH, if_neg (by simpa using s)]
  have hs := aDk s
  rw [zL, show make' 8 3 (0 : Int) = some [0, 0, 0] from rfl, zL, rL5_vote t cx cy cz m hs, zL]
end Go.Lf
