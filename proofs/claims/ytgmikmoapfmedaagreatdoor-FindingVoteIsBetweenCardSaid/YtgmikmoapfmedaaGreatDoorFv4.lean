/- Vote: both programs answer alike. -/
import Derived.Test.YtgmikmoapfmedaaGreatDoorFVa
namespace Go.Lf
open Go.OB
def vF (e:Int):gV×(List Int)×Int:=(gV.mk [] (Series.mk 0 []) 0,[],e)
def uK (l:List gV)(x y z:Str)(most a b:Int):gV×(List Int)×Int:=
  if vtE l x y z≠0 then vF (vtE l x y z) else if¬(0≤most∧most≤1125899906842624) then vF 9 else if sS a b≠0 then vF (sS a b)
  else (gV.mk x (Series.mk (trk l x).Series.Den (nY (trk l x) (trk l y) (trk l z) most a (spn a b))) 63,outs (trk l x) (trk l y) (trk l z) most a (spn a b),0)
def kW (l:List gV)(ns:List Str)(most a b:Int):gV×(List Int)×Int:=
  if kE l≠0 then vF (kE l) else match ns with
    | [x,y,z]=>uK l x y z most a b
    | _=>vF 2
theorem not3 {l:List gV}{ns:List Str}{most a b:Int}(h:kE l=0)(n3: ¬ns.length=3):kW l ns most a b=vF 2:=by
  unfold kW
  rw [if_neg (by simp [h])]
  match ns,n3 with
  | [],_=>rfl
  | [_],_=>rfl
  | [_,_],_=>rfl
  | [_,_,_],h=>exact absurd rfl h
  | _ :: _ :: _ :: _ :: _,_=>rfl
theorem aAd {l : List gV} {x y z : Str} (h : vtE l x y z = 0) : ¬ dO l x < 0 ∧ ¬ dO l y < 0 ∧ ¬ dO l z < 0 := by
  unfold vtE at h
  split at h
  · exact absurd h (by decide)
  · rename_i c
    simp only [not_or] at c
    exact c
theorem vote_trks {l : List gV} {x y z : Str} (h9 : l.length ≤ 9223372036854775807) (cx : ¬ dO l x < 0) (cy : ¬ dO l y < 0) (cz : ¬ dO l z < 0) : Fbo l [x, y, z] (([x, y, z] : List Str).length : Int) ([], 0) = some [trk l x, trk l y, trk l z] := by
  obtain ⟨ax, -, -⟩ := aH cx
  obtain ⟨ay, -, -⟩ := aH cy
  obtain ⟨az, -, -⟩ := aH cz
  have ap : ∀ (p : List gV) (u : gV), p.length ≤ 1000 → app' 56 p [u] = some (p ++ [u]) := fun p u hp => by
    unfold app'
    rw [if_pos ⟨by rw [Go.OB.maxLen_eq]; simp; omega, by simp; omega⟩]
  unfold Fbo
  refine aS (β := List gV) (γ := List gV × Int) (fun i => (match i with | 0 => [] | 1 => [trk l x] | 2 => [trk l x, trk l y] | _ => [trk l x, trk l y, trk l z], (i : Int))) [x, y, z] (some [trk l x, trk l y, trk l z]) (by simp) ?_ ?_
  · intro kk i u hu hi
    simp only [yA]
    rw [cZ hi, yR, dZ hu, zM, dY l u h9, zM, aN hi (by simp)]
    match i, hu with
    | 0, hu =>
      obtain rfl : x = u := by simpa using hu
      rw [ax, zM, ap _ _ (by simp), zM]; rfl
    | 1, hu =>
      obtain rfl : y = u := by simpa using hu
      rw [ay, zM, ap _ _ (by simp), zM]; rfl
    | 2, hu =>
      obtain rfl : z = u := by simpa using hu
      rw [az, zM, ap _ _ (by simp), zM]; rfl
    | n + 3, hu => simp at hu
  · intro kk
    simp only [yA]
    rw [bC, yY]
    rfl
theorem aBv (l : List gV) (ns : List Str) (most a b : Int) (hl : okL kY l) (hn : ns.length ≤ 9223372036854775807) : Faq l ns most a b = some (kW l ns most a b) := by
  have h9 := hl.1
  unfold Faq
  rw [uO l hl, aAq, zM]
  simp only [yA]
  by_cases t : kE l = 0
  rotate_left
  · rw [decide_eq_true (show kE l ≠ 0 from t), yR]
    unfold kW
    rw [if_pos t]; rfl
  rw [decide_eq_false (by simpa using t), yY]
  by_cases n3 : ns.length = 3
  rotate_left
  · have e : Fak l ns = some 2 := by
      unfold Fak
      simp only [yA]
      rw [decide_eq_true (show (ns.length : Int) ≠ 3 by omega), yR]
    rw [e, zM, decide_eq_true (show (2 : Int) ≠ 0 by decide), yR, not3 t n3]; rfl
  obtain ⟨x, y, z, rfl⟩ := three n3
  have eR : kW l [x, y, z] most a b = uK l x y z most a b := by
    unfold kW
    rw [if_neg (by simp [t])]
  rw [eR, uB l x y z h9, zM]
  unfold uK
  by_cases v : vtE l x y z = 0
  rotate_left
  · rw [decide_eq_true (show vtE l x y z ≠ 0 from v), yR, if_pos v]; rfl
  rw [decide_eq_false (by simpa using v), yY, if_neg (by simpa using v), fwithin, zM]
  by_cases m : 0 ≤ most ∧ most ≤ 1125899906842624
  rotate_left
  · rw [if_pos m]
    have e : (!(decide (0 ≤ most) && decide (most ≤ 1125899906842624))) = true := by
      by_cases m1 : 0 ≤ most
      · have m2 : ¬ most ≤ 1125899906842624 := fun h => m ⟨m1, h⟩
        rw [decide_eq_false m2]; simp
      · rw [decide_eq_false m1]; rfl
    rw [e, yR]; rfl
  rw [decide_eq_true m.1, decide_eq_true m.2, if_neg (not_not_intro m)]
  rw [show (!(true && true)) = false from rfl, yY, xX, zM]
  by_cases s : sS a b = 0
  rotate_left
  · rw [decide_eq_true (show sS a b ≠ 0 from s), yR, if_pos s]; rfl
  rw [decide_eq_false (by simpa using s), yY, if_neg (by simpa using s)]
  have hs := spn_ok s
  obtain ⟨cx, cy, cz⟩ := aAd v
  obtain ⟨-, mx, -⟩ := aH cx
  obtain ⟨-, my, -⟩ := aH cy
  obtain ⟨-, mz, -⟩ := aH cz
  rw [Go.OB.wrap_i64 (n := b - a) (by omega) (by omega), Go.OB.wrap_i64 (n := b - a + 1) (by omega) (by omega), decide_eq_false (by omega : ¬ 20000 < b - a + 1), yY]
  rw [vote_trks h9 cx cy cz, zM, show at' ([x, y, z] : List Str) 0 = some x from rfl, zM, show at' ([trk l x, trk l y, trk l z] : List gV) 0 = some (trk l x) from rfl, zM, show make' 8 3 (0 : Int) = some [0, 0, 0] from rfl, zM, L2_vote t mx my mz m hs, zM]
end Go.Lf
