/- Walks: what each function computes, for every argument; no condition but those that stand in the statements. -/
import Derived.Test.YtgmikmoapfmedaaGreatDoorFi5
import Derived.Test.YtgmikmoapfmedaaGreatDoorFs1
namespace Go.Lf
open Go.OB
theorem uD (l:List Str)(i:Nat)(hi:i≤l.length):sub' l 0 (i:Int)=some (l.take i):=by
  unfold sub'
  rw [if_pos ⟨by omega,by omega,by omega⟩]
  simp
theorem tC (l : List Str) (c : Str) (hl : l.length ≤ 9223372036854775807) : Fax l c = some (l.any fun y => decide (c = y)) := by
  unfold Fax Fa2
  simp only [yA, dM]
  unfold Fda
  obtain ⟨n, h1, h2⟩ := qX (fun y => decide (c = y)) l 0
  rw [dI l (fun i x => if decide (c = x) = true then some (some (i : Int)) else none) (some (-1)) hl ?_ ?_, h1, zM]
  · congr 1
    rcases h2 with ⟨rfl, h3⟩ | ⟨j, x, h3, h4, rfl⟩
    · rw [decide_eq_false (by decide)]
      symm
      rw [List.any_eq_false]
      intro x hx
      rw [h3 x hx]; decide
    · rw [decide_eq_true (by omega)]
      symm
      rw [List.any_eq_true]
      exact ⟨x, List.mem_of_getElem? h3, h4⟩
  · intro k i x hx hi
    simp only [yA]
    rw [cZ hi, yR, dZ hx, zM, aN hi hl]
    cases decide (c = x) <;> rfl
  · intro k
    simp only [yA]
    rw [bC, yY]
def vtE (l:List gV)(x y z:Str):Int:=
  if dO l x<0∨dO l y<0∨dO l z<0 then 4 else if x=y∨x=z∨y=z then 5
  else if (trk l x).Series.Den≠(trk l y).Series.Den∨(trk l x).Series.Den≠(trk l z).Series.Den then 2 else 0
theorem three {α:Type}{p:List α}(h:p.length=3): ∃x y z,p= [x,y,z]:=by
  match p,h with
  | [x,y,z],_=>exact ⟨x,y,z,rfl⟩
def orS {β:Type}(a:Option (Option β))(k:Option β):Option β:=match a with
  | some r=>r
  | none=>k
theorem uQ {β:Type}(r k:Option β):orS (some r) k=r:=rfl
theorem aO {β:Type}(k:Option β):orS none k=k:=rfl
theorem aDr {β : Type} {body : (Int → Option β) → Int → Option β} (a b c : Option (Option β)) (fin : Option β)
    (h0 : ∀ k, body k 0 = orS a (k 1)) (h1 : ∀ k, body k 1 = orS b (k 2)) (h2 : ∀ k, body k 2 = orS c (k 3)) (h3 : ∀ k, body k 3 = fin) :
    fF body 0 = orS a (orS b (orS c fin)) := by
  have q : fF body ((0 : Nat) : Int) = bT (fun _ x => x) fin [a, b, c] 0 := by
    refine dI [a, b, c] (fun _ x => x) fin (by simp) ?_ ?_
    · intro k i x hx hi
      match i, hx with
      | 0, hx =>
        obtain rfl : a = x := by simpa using hx
        refine (h0 k).trans ?_
        cases a <;> rfl
      | 1, hx =>
        obtain rfl : b = x := by simpa using hx
        refine (h1 k).trans ?_
        cases b <;> rfl
      | 2, hx =>
        obtain rfl : c = x := by simpa using hx
        refine (h2 k).trans ?_
        cases c <;> rfl
      | n + 3, hx => simp at hx
    · intro k; exact h3 k
  refine q.trans ?_
  cases a <;> cases b <;> cases c <;> rfl
theorem uB (l : List gV) (x y z : Str) (hl : l.length ≤ 9223372036854775807) : Fak l [x, y, z] = some (vtE l x y z) := by
  unfold Fak vtE
  simp only [yA, dM]
  rw [show (decide ((([x, y, z] : List Str).length : Int) ≠ 3)) = false from rfl, yY]
  unfold Fc8
  rw [aDr (if dO l x < 0 then some (some 4) else none) (if dO l y < 0 then some (some 4) else none) (if dO l z < 0 then some (some 4) else none) (Fbr [x, y, z] (fun _ => Fa8 l [x, y, z] (fun _ => some 0) (([x, y, z] : List Str).length : Int) 0) (([x, y, z] : List Str).length : Int) 0) ?_ ?_ ?_ (fun k => rfl)]
  rotate_left
  · intro k
    show gG (Faa l x) _ = _
    rw [dY l x hl, zM, yA]
    by_cases c : dO l x < 0
    · rw [if_pos c, decide_eq_true c]; rfl
    · rw [if_neg c, decide_eq_false c]; rfl
  · intro k
    show gG (Faa l y) _ = _
    rw [dY l y hl, zM, yA]
    by_cases c : dO l y < 0
    · rw [if_pos c, decide_eq_true c]; rfl
    · rw [if_neg c, decide_eq_false c]; rfl
  · intro k
    show gG (Faa l z) _ = _
    rw [dY l z hl, zM, yA]
    by_cases c : dO l z < 0
    · rw [if_pos c, decide_eq_true c]; rfl
    · rw [if_neg c, decide_eq_false c]; rfl
  by_cases cx : dO l x < 0
  · rw [if_pos (Or.inl cx), if_pos cx, uQ]
  by_cases cy : dO l y < 0
  · rw [if_pos (Or.inr (Or.inl cy)), if_neg cx, if_pos cy, aO, uQ]
  by_cases cz : dO l z < 0
  · rw [if_pos (Or.inr (Or.inr cz)), if_neg cx, if_neg cy, if_pos cz, aO, aO, uQ]
  rw [if_neg cx, if_neg cy, if_neg cz, if_neg (by simp [cx, cy, cz]), aO, aO, aO]
  unfold Fbr
  rw [aDr (none) (if x = y then some (some 5) else none) (if x = z ∨ y = z then some (some 5) else none) (Fa8 l [x, y, z] (fun _ => some 0) (([x, y, z] : List Str).length : Int) 0) ?_ ?_ ?_ (fun k => rfl)]
  rotate_left
  · intro k
    simp only [yA]
    rw [decide_eq_true (show (0 : Int) < (([x, y, z] : List Str).length : Int) by simp), yR, show at' ([x, y, z] : List Str) 0 = some x from rfl, zM, show sub' ([x, y, z] : List Str) 0 0 = some (([x, y, z] : List Str).take 0) from uD _ 0 (by simp), zM, tC _ _ (by simp)]
    rfl
  · intro k
    simp only [yA]
    rw [decide_eq_true (show (1 : Int) < (([x, y, z] : List Str).length : Int) by simp), yR, show at' ([x, y, z] : List Str) 1 = some y from rfl, zM, show sub' ([x, y, z] : List Str) 0 1 = some (([x, y, z] : List Str).take 1) from uD _ 1 (by simp), zM, tC _ _ (by simp), zM]
    by_cases c : x = y
    · subst c; simp [gK]; rfl
    · rw [if_neg c]
      have : (([x, y, z] : List Str).take 1).any (fun w => decide (y = w)) = false := by simp [Ne.symm c]
      rw [this]; rfl
  · intro k
    simp only [yA]
    rw [decide_eq_true (show (2 : Int) < (([x, y, z] : List Str).length : Int) by simp), yR, show at' ([x, y, z] : List Str) 2 = some z from rfl, zM, show sub' ([x, y, z] : List Str) 0 2 = some (([x, y, z] : List Str).take 2) from uD _ 2 (by simp), zM, tC _ _ (by simp), zM]
    by_cases c : x = z ∨ y = z
    · have : (([x, y, z] : List Str).take 2).any (fun w => decide (z = w)) = true := by
        rcases c with rfl | rfl <;> simp
      rw [if_pos c, this]; rfl
    · have : (([x, y, z] : List Str).take 2).any (fun w => decide (z = w)) = false := by
        simp only [not_or] at c
        simp [Ne.symm c.1, Ne.symm c.2]
      rw [if_neg c, this]; rfl
  by_cases c1 : x = y
  · rw [if_pos (Or.inl c1), if_pos c1, aO, uQ]
  by_cases c2 : x = z ∨ y = z
  · rw [if_pos (Or.inr c2), if_neg c1, if_pos c2, aO, aO, uQ]
  rw [if_neg c1, if_neg c2, if_neg (by simp only [not_or] at c2 ⊢; exact ⟨c1, c2⟩), aO, aO, aO]
  obtain ⟨ax, -, -⟩ := aH cx
  obtain ⟨ay, -, -⟩ := aH cy
  obtain ⟨az, -, -⟩ := aH cz
  unfold Fa8
  rw [aDr (none) (if (trk l x).Series.Den ≠ (trk l y).Series.Den then some (some 2) else none) (if (trk l x).Series.Den ≠ (trk l z).Series.Den then some (some 2) else none) (some 0) ?_ ?_ ?_ (fun k => rfl)]
  rotate_left
  · intro k
    show gG (Faa l x) _ = _
    rw [dY l x hl, zM, ax, zM]
    show gG (Faa l x) _ = _
    rw [dY l x hl, zM, ax, zM, yA, decide_eq_false (by simp)]
    rfl
  · intro k
    show gG (Faa l y) _ = _
    rw [dY l y hl, zM, ay, zM]
    show gG (Faa l x) _ = _
    rw [dY l x hl, zM, ax, zM, yA]
    by_cases c : (trk l x).Series.Den = (trk l y).Series.Den
    · rw [decide_eq_false (by simp [c]), if_neg (by simp [c])]; rfl
    · rw [decide_eq_true (show (trk l y).Series.Den ≠ (trk l x).Series.Den from fun h => c h.symm), if_pos c]; rfl
  · intro k
    show gG (Faa l z) _ = _
    rw [dY l z hl, zM, az, zM]
    show gG (Faa l x) _ = _
    rw [dY l x hl, zM, ax, zM, yA]
    by_cases c : (trk l x).Series.Den = (trk l z).Series.Den
    · rw [decide_eq_false (by simp [c]), if_neg (by simp [c])]; rfl
    · rw [decide_eq_true (show (trk l z).Series.Den ≠ (trk l x).Series.Den from fun h => c h.symm), if_pos c]; rfl
  by_cases d1 : (trk l x).Series.Den ≠ (trk l y).Series.Den
  · rw [if_pos (Or.inl d1), if_pos d1, aO, uQ]
  · by_cases d2 : (trk l x).Series.Den ≠ (trk l z).Series.Den
    · rw [if_pos (Or.inr d2), if_neg d1, if_pos d2, aO, aO, uQ]
    · rw [if_neg d1, if_neg d2, if_neg (by simp only [not_or]; exact ⟨d1, d2⟩), aO, aO, aO]
end Go.Lf
namespace Go.Lf
open Go.OB
def kn (l:List fG):List Int:=(l.filter fun x=>x.Known).map fun x=>x.N
theorem aEm (l:List fG)(x:fG):kn (l++ [x])=if x.Known=true then kn l++ [x.N] else kn l:=by
  unfold kn
  rw [List.filter_append,List.map_append]
  cases h:x.Known<;>simp [h]
theorem wU (l:List fG):(kn l).length≤l.length:=by
  unfold kn
  rw [List.length_map]
  exact List.length_filter_le _ _
theorem ap8v {l:List Int}{x:Int}(h:l.length≤1000000):app' 8 l [x]=some (l++ [x]):=by
  unfold app'
  rw [if_pos ⟨by rw [Go.OB.maxLen_eq]; simp; omega,by simp; omega⟩]
theorem aDy (l : List fG) (hl : l.length ≤ 1000) : Fbx l (l.length : Int) ([], 0) = some (kn l) := by
  unfold Fbx
  refine aS (fun (i : Nat) => (kn (l.take i), (i : Int))) l (some (kn l)) (by omega) ?_ ?_
  · intro kk i x hx hi
    have h1 := wU (l.take i)
    have h2 : (l.take i).length ≤ l.length := by rw [List.length_take]; omega
    simp only [yA]
    rw [cZ hi, yR, dZ hx, zM, aN hi (by omega), take_snoc hx, aEm]
    cases x.Known
    · rfl
    · rw [yR, ap8v (by omega), zM, zM]; rfl
  · intro kk
    simp only [yA]
    rw [bC, yY, List.take_length]
theorem voted_L1 (A : Arr 3 fG) : Fdl A ([], 0) = some (kn A.l) := by
  have hl := A.h
  unfold Fdl
  refine aS (fun (i : Nat) => (kn (A.l.take i), (i : Int))) A.l (some (kn A.l)) (by omega) ?_ ?_
  · intro kk i x hx hi
    have h1 := wU (A.l.take i)
    have h2 : (A.l.take i).length ≤ A.l.length := by rw [List.length_take]; omega
    simp only [yA]
    rw [decide_eq_true (by omega : (i : Int) < 3), yR, dZ hx]
    simp only [zM]
    rw [aN hi (by omega), take_snoc hx, aEm]
    cases x.Known
    · rfl
    · rw [yR, ap8v (by omega), zM, zM]; rfl
  · intro kk
    simp only [yA]
    rw [decide_eq_false (by omega), yY, List.take_length]
theorem srt3 (a b c:Int): ∃p q r,srt [a,b,c]= [p,q,r]∧p≤q∧q≤r∧((a=p∧b=q∧c=r)∨(a=p∧b=r∧c=q)∨(a=q∧b=p∧c=r)∨(a=q∧b=r∧c=p)∨(a=r∧b=p∧c=q)∨(a=r∧b=q∧c=p)):=by
  have s3: ∀p q r:Int,p≤q→q≤r→Srd [p,q,r]:=fun p q r h1 h2=>by
    unfold Srd; simp; omega
  have u: ∀p q r:Int,p≤q→q≤r→([p,q,r]:List Int).Perm [a,b,c]→srt [a,b,c]= [p,q,r]:=fun p q r h1 h2 hp=>pO ((pX _).trans hp.symm) (sH _) (s3 p q r h1 h2)
  by_cases h1:a≤b<;>by_cases h2:b≤c<;>by_cases h3:a≤c
  · exact ⟨a,b,c,u a b c h1 h2 (List.Perm.refl _),h1,h2,by omega⟩
  · omega
  · exact ⟨a,c,b,u a c b h3 (by omega) ((List.Perm.swap b c []).cons a),h3,by omega,by omega⟩
  · exact ⟨c,a,b,u c a b (by omega) h1 ((List.Perm.swap a c [b]).trans ((List.Perm.swap b c []).cons a)),by omega,h1,by omega⟩
  · exact ⟨b,a,c,u b a c (by omega) h3 (List.Perm.swap a b [c]),by omega,h3,by omega⟩
  · exact ⟨b,c,a,u b c a h2 (by omega) (((List.Perm.swap a c []).cons b).trans (List.Perm.swap a b [c])),h2,by omega,by omega⟩
  · omega
  · exact ⟨c,b,a,u c b a (by omega) (by omega) (((List.Perm.swap a b []).cons c).trans ((List.Perm.swap a c [b]).trans ((List.Perm.swap b c []).cons a))),by omega,by omega,by omega⟩
def vot (x y z:fG)(most:Int):Int×Bool×Int:=(Fab [x,y,z] most).getD (0,false,-1)
def mM (x:fG):Prop:= -1125899906842624≤x.N∧x.N≤1125899906842624
theorem aCq {x y z : fG} {most q : Int} {d : Int → Int} {k : Unit → Option (Int × Bool × Int)} (hx : Fac x.N q = some (d x.N)) (hy : Fac y.N q = some (d y.N)) (hz : Fac z.N q = some (d z.N)) :
    Fao [x, y, z] most q k 3 0 = if most < d x.N then some (q, true, 0) else if most < d y.N then some (q, true, 1) else if most < d z.N then some (q, true, 2) else k () := by
  unfold Fao
  rw [aDr (if most < d x.N then some (some (q, true, 0)) else none) (if most < d y.N then some (some (q, true, 1)) else none) (if most < d z.N then some (some (q, true, 2)) else none) (k ()) ?_ ?_ ?_ (fun _ => rfl)]
  · split
    · rfl
    · rw [aO]
      split
      · rfl
      · rw [aO]
        split <;> rfl
  · intro kk
    simp only [yA]
    rw [decide_eq_true (by decide : (0 : Int) < 3), yR, show at' ([x, y, z] : List fG) 0 = some x from rfl, zM, hx, zM]
    by_cases c : most < d x.N
    · rw [if_pos c, decide_eq_true c]; rfl
    · rw [if_neg c, decide_eq_false c]; rfl
  · intro kk
    simp only [yA]
    rw [decide_eq_true (by decide : (1 : Int) < 3), yR, show at' ([x, y, z] : List fG) 1 = some y from rfl, zM, hy, zM]
    by_cases c : most < d y.N
    · rw [if_pos c, decide_eq_true c]; rfl
    · rw [if_neg c, decide_eq_false c]; rfl
  · intro kk
    simp only [yA]
    rw [decide_eq_true (by decide : (2 : Int) < 3), yR, show at' ([x, y, z] : List fG) 2 = some z from rfl, zM, hz, zM]
    by_cases c : most < d z.N
    · rw [if_pos c, decide_eq_true c]; rfl
    · rw [if_neg c, decide_eq_false c]; rfl
theorem vt_L2r {A : Arr 3 fG} {x y z : fG} {s : List Int} {g h : Bool} (hA : A.l = [x, y, z]) (e : Int → Bool) (he : ∀ n : Int, (gK g (gG (at' s 0) fun x903 => gJ (decide (n = x903)) fun x914 => gK x914 (some true) (gK h (gG (at' s 2) fun x921 => gJ (decide (n = x921)) fun x932 => some x932) (some false))) (gK h (gG (at' s 2) fun x939 => gJ (decide (n = x939)) fun x950 => some x950) (some false))) = some (e n)) :
    Fbi A s g h (-1, 0) = some (if e z.N = true then 2 else if e y.N = true then 1 else if e x.N = true then 0 else -1) := by
  have he' : ∀ u : fG, (gK g (gG (some u) fun x901 => gG (at' s 0) fun x903 => gJ (decide (x901.N = x903)) fun x914 => gK x914 (some true) (gK h (gG (some u) fun x919 => gG (at' s 2) fun x921 => gJ (decide (x919.N = x921)) fun x932 => some x932) (some false))) (gK h (gG (some u) fun x937 => gG (at' s 2) fun x939 => gJ (decide (x937.N = x939)) fun x950 => some x950) (some false))) = some (e u.N) := fun u => he u.N
  unfold Fbi
  refine aS (β := Int) (γ := Int × Int) (fun i => (match i with | 0 => -1 | 1 => (if e x.N = true then 0 else -1) | 2 => (if e y.N = true then 1 else if e x.N = true then 0 else -1) | _ => (if e z.N = true then 2 else if e y.N = true then 1 else if e x.N = true then 0 else -1), (i : Int))) [x, y, z] _ (by simp) ?_ ?_
  · intro kk i u hu hi
    simp only [yA]
    rw [decide_eq_true (by simp at hi; omega : (i : Int) < 3), yR, hA, dZ hu, aN hi (by simp)]
    have q := he' u
    simp only [yA] at q
    rw [q, zM]
    match i, hu with
    | 0, hu => obtain rfl : x = u := by simpa using hu
               cases e x.N <;> rfl
    | 1, hu => obtain rfl : y = u := by simpa using hu
               cases e y.N <;> rfl
    | 2, hu => obtain rfl : z = u := by simpa using hu
               cases e z.N <;> rfl
    | n + 3, hu => simp at hu
  · intro kk
    rfl
theorem vote_eq {x y z : fG} (hx : mM x) (hy : mM y) (hz : mM z) {most : Int} (hm : 0 ≤ most ∧ most ≤ 1125899906842624) {A : Arr 3 fG} (hA : A.l = [x, y, z]) :
    Fab [x, y, z] most = some (vot x y z most) ∧ Fbz A most = some ((vot x y z most).1, (vot x y z most).2.2, (vot x y z most).2.1) ∧ (-1 ≤ (vot x y z most).2.2 ∧ (vot x y z most).2.2 ≤ 2) := by
  suffices q : ∃ v : Int × Bool × Int, Fab [x, y, z] most = some v ∧ Fbz A most = some (v.1, v.2.2, v.2.1) ∧ (-1 ≤ v.2.2 ∧ v.2.2 ≤ 2) by
    obtain ⟨v, h1, h2, h3⟩ := q
    have e : vot x y z most = v := by unfold vot; rw [h1]; rfl
    rw [e]; exact ⟨h1, h2, h3⟩
  have k1 := aDy [x, y, z] (by simp)
  have k2 := voted_L1 A
  rw [hA] at k2
  have hkl := wU [x, y, z]
  have hsl := sF (kn [x, y, z])
  unfold Fab Fbz Fbe
  simp only [yA]
  rw [k1, zM, k2, zM, if_pos (by simp at hkl; omega), zM, vT _ (by simp at hkl; omega), zM]
  have all3 : (kn [x, y, z]).length = 3 → kn [x, y, z] = [x.N, y.N, z.N] := by
    unfold kn
    cases hx1 : x.Known <;> cases hy1 : y.Known <;> cases hz1 : z.Known <;> simp [hx1, hy1, hz1]
  generalize hs : srt (kn [x, y, z]) = s at *
  match s, hsl with
  | [], _ => exact ⟨(0, false, -1), rfl, rfl, ⟨by show (-1 : Int) ≤ -1; decide, by show (-1 : Int) ≤ 2; decide⟩⟩
  | [_], _ => exact ⟨(0, false, -1), rfl, rfl, ⟨by show (-1 : Int) ≤ -1; decide, by show (-1 : Int) ≤ 2; decide⟩⟩
  | [p, q], _ =>
    rw [decide_eq_true (show (([p, q] : List Int).length : Int) = 2 from rfl), yR]
    show ∃ v : Int × Bool × Int, gG (some (decide (IntKind.i64.wrap (q - p) ≤ most))) _ = _ ∧ gG (some (decide (IntKind.i64.wrap (q - p) ≤ most))) _ = _ ∧ _
    rw [zM, zM]
    by_cases c : IntKind.i64.wrap (q - p) ≤ most
    · rw [decide_eq_true c, yR, yR]
      exact ⟨(p, true, -1), rfl, rfl, ⟨by show (-1 : Int) ≤ -1; decide, by show (-1 : Int) ≤ 2; decide⟩⟩
    · rw [decide_eq_false c, yY, yY]
      exact ⟨(0, false, -1), rfl, rfl, ⟨by show (-1 : Int) ≤ -1; decide, by show (-1 : Int) ≤ 2; decide⟩⟩
  | [p, q, r], hsl =>
    have e3 := all3 hsl.symm
    rw [e3] at hs
    obtain ⟨p', q', r', h1, h2, h3, h4⟩ := srt3 x.N y.N z.N
    rw [hs] at h1
    simp only [List.cons.injEq, and_true] at h1
    obtain ⟨rfl, rfl, rfl⟩ := h1
    unfold mM at hx hy hz
    rw [decide_eq_false (show ¬ (([p, q, r] : List Int).length : Int) = 2 by simp), yY, zM, zM, yY, yY, decide_eq_false (show ¬ (([p, q, r] : List Int).length : Int) < 3 by simp), yY, yY]
    show ∃ v : Int × Bool × Int, dR (fun _ => some (q, true, (-1 : Int))) (fun k642 => gJ (!(decide (most < IntKind.i64.wrap (q - p)) == decide (most < IntKind.i64.wrap (r - q)))) fun x645 => gK x645 (Fao [x, y, z] most q k642 3 0) (k642 ())) = some v ∧ gG (gJ (!(decide (most < IntKind.i64.wrap (q - p)) == decide (most < IntKind.i64.wrap (r - q)))) fun x605 => gK x605 (Fbi A [p, q, r] (decide (most < IntKind.i64.wrap (q - p))) (decide (most < IntKind.i64.wrap (r - q))) (-1, 0)) (some (-1))) (fun g601 => gG (at' [p, q, r] 1) fun x958 => some (x958, g601, true)) = some (v.1, v.2.2, v.2.1) ∧ _
    rw [Go.OB.wrap_i64 (n := q - p) (by omega) (by omega), Go.OB.wrap_i64 (n := r - q) (by omega) (by omega)]
    simp only [dM, yA]
    have dst : ∀ n : Int, (n = p ∨ n = q ∨ n = r) → Fac n q = some (max (n - q) (q - n)) := fun n hn => by
      unfold Fac
      simp only [yA]
      rw [Go.OB.wrap_i64 (n := n - q) (by omega) (by omega), Go.OB.wrap_i64 (n := q - n) (by omega) (by omega)]
    by_cases c1 : most < q - p <;> by_cases c2 : most < r - q
    · rw [decide_eq_true c1, decide_eq_true c2]
      exact ⟨(q, true, -1), rfl, rfl, ⟨by show (-1 : Int) ≤ -1; decide, by show (-1 : Int) ≤ 2; decide⟩⟩
    · rw [decide_eq_true c1, decide_eq_false c2]
      have P := aCq (x := x) (y := y) (z := z) (most := most) (q := q) (d := fun n => max (n - q) (q - n)) (k := fun _ => some (q, true, (-1 : Int))) (dst x.N (by omega)) (dst y.N (by omega)) (dst z.N (by omega))
      have Q := vt_L2r (A := A) (x := x) (y := y) (z := z) (s := [p, q, r]) (g := true) (h := false) hA (fun n => decide (n = p)) (fun n => by rw [show at' [p, q, r] 0 = some p from rfl]; simp only [yR, yY, zM, yA] <;> (cases decide (n = p) <;> rfl))
      simp only [show (!(true == false)) = true from rfl, yR]
      rw [P, Q, zM]
      rcases h4 with ⟨a, b, c⟩ | ⟨a, b, c⟩ | ⟨a, b, c⟩ | ⟨a, b, c⟩ | ⟨a, b, c⟩ | ⟨a, b, c⟩
      all_goals
        first
        | exact ⟨(q, true, 0), by rw [if_pos (by omega)], by rw [decide_eq_false (by omega : ¬ z.N = p), decide_eq_false (by omega : ¬ y.N = p), decide_eq_true (by omega : x.N = p)]; rfl, ⟨by show (-1 : Int) ≤ 0; decide, by show (0 : Int) ≤ 2; decide⟩⟩
        | exact ⟨(q, true, 1), by rw [if_neg (by omega), if_pos (by omega)], by rw [decide_eq_false (by omega : ¬ z.N = p), decide_eq_true (by omega : y.N = p)]; rfl, ⟨by show (-1 : Int) ≤ 1; decide, by show (1 : Int) ≤ 2; decide⟩⟩
        | exact ⟨(q, true, 2), by rw [if_neg (by omega), if_neg (by omega), if_pos (by omega)], by rw [decide_eq_true (by omega : z.N = p)]; rfl, ⟨by show (-1 : Int) ≤ 2; decide, by show (2 : Int) ≤ 2; decide⟩⟩
    · rw [decide_eq_false c1, decide_eq_true c2]
      have P := aCq (x := x) (y := y) (z := z) (most := most) (q := q) (d := fun n => max (n - q) (q - n)) (k := fun _ => some (q, true, (-1 : Int))) (dst x.N (by omega)) (dst y.N (by omega)) (dst z.N (by omega))
      have Q := vt_L2r (A := A) (x := x) (y := y) (z := z) (s := [p, q, r]) (g := false) (h := true) hA (fun n => decide (n = r)) (fun n => by rw [show at' [p, q, r] 2 = some r from rfl]; simp only [yR, yY, zM, yA] <;> (cases decide (n = r) <;> rfl))
      simp only [show (!(false == true)) = true from rfl, yR]
      rw [P, Q, zM]
      rcases h4 with ⟨a, b, c⟩ | ⟨a, b, c⟩ | ⟨a, b, c⟩ | ⟨a, b, c⟩ | ⟨a, b, c⟩ | ⟨a, b, c⟩
      all_goals
        first
        | exact ⟨(q, true, 0), by rw [if_pos (by omega)], by rw [decide_eq_false (by omega : ¬ z.N = r), decide_eq_false (by omega : ¬ y.N = r), decide_eq_true (by omega : x.N = r)]; rfl, ⟨by show (-1 : Int) ≤ 0; decide, by show (0 : Int) ≤ 2; decide⟩⟩
        | exact ⟨(q, true, 1), by rw [if_neg (by omega), if_pos (by omega)], by rw [decide_eq_false (by omega : ¬ z.N = r), decide_eq_true (by omega : y.N = r)]; rfl, ⟨by show (-1 : Int) ≤ 1; decide, by show (1 : Int) ≤ 2; decide⟩⟩
        | exact ⟨(q, true, 2), by rw [if_neg (by omega), if_neg (by omega), if_pos (by omega)], by rw [decide_eq_true (by omega : z.N = r)]; rfl, ⟨by show (-1 : Int) ≤ 2; decide, by show (2 : Int) ≤ 2; decide⟩⟩
    · rw [decide_eq_false c1, decide_eq_false c2]
      exact ⟨(q, true, -1), rfl, rfl, ⟨by show (-1 : Int) ≤ -1; decide, by show (-1 : Int) ≤ 2; decide⟩⟩
  | _ :: _ :: _ :: _ :: _, hsl => simp at hsl hkl; omega
end Go.Lf
namespace Go.Lf
open Go.OB
theorem aT {l:List gV}(h:kE l=0){x:gV}(hx:x ∈ l)(n:Int):mM (inT n x):=(good_num h hx n).2
theorem some_good {l : List gV} (h : kE l = 0) (m : List gV) (hm : ∀ x ∈ m, x ∈ l) (hk : m.length ≤ 1000) (n : Int) (h0 : 0 ≤ n) (h1 : n ≤ 4194303) : Fbc m n = some (m.map (inT n)) := by
  have key : ∀ x ∈ m, Fam x.Series (64 * n + 63) x.Long = some (hld x.Series (64 * n + 63) x.Long) := fun x hx => by
    obtain ⟨i, hi⟩ := List.getElem?_of_mem (hm x hx)
    obtain ⟨q1, q2, q3⟩ := (pU h).2 i x hi
    exact Held_eq _ _ _ q1 q2 q3 ⟨by omega, by omega⟩
  unfold Fbc Fcu
  simp only [yA]
  refine (congrArg (fun o => gG o fun g => some g) (aS (fun (i : Nat) => ((m.take i).map (inT n), (i : Int))) m (some (m.map (inT n))) (by omega) ?_ ?_)).trans (zM _ _)
  · intro kk i x hx hi
    simp only [yA]
    rw [cZ hi, yR, dZ hx, zM, wP h0 h1, key x (List.mem_of_getElem? hx), zM, app16 _ _ (by simp; omega), zM, aN hi (by omega), take_snoc hx, List.map_append]
    rfl
  · intro kk
    simp only [yA]
    rw [bC, yY, List.take_length]
def vtS (x y z:gV)(most t:Int):fC:=fC.mk (64 * t+63) (if (vot (inT t x) (inT t y) (inT t z) most).2.1=true then (vot (inT t x) (inT t y) (inT t z) most).1 else 0) (if (vot (inT t x) (inT t y) (inT t z) most).2.1=true then 4 else 0)
def vtO (x y z:gV)(most t:Int):Int:=(vot (inT t x) (inT t y) (inT t z) most).2.2
def bump (o:List Int)(w:Int):List Int:=if 0≤w then o.set w.toNat (o.getD w.toNat 0+1) else o
def outs (x y z:gV)(most a:Int):Nat→List Int
  | 0=>[0,0,0]
  | i+1=>bump (outs x y z most a i) (vtO x y z most (a+(i:Int)))
theorem aBr (x y z:gV)(most a:Int): ∀i,(outs x y z most a i).length=3
  | 0=>rfl
  | i+1=>by
    have h:=aBr x y z most a i
    show (bump _ _).length=3
    unfold bump
    split
    · rw [List.length_set]; exact h
    · exact h
theorem aEc (x y z : gV) (most a : Int) : ∀ i, ∀ n ∈ outs x y z most a i, 0 ≤ n ∧ n ≤ (i : Int)
  | 0, n, h => by
    simp only [outs, List.mem_cons, List.not_mem_nil, or_false] at h
    omega
  | i + 1, n, h => by
    have ih := aEc x y z most a i
    change n ∈ bump _ _ at h
    unfold bump at h
    split at h
    · rcases List.mem_or_eq_of_mem_set h with h | rfl
      · have := ih n h; omega
      · rw [List.getD_eq_getElem?_getD]
        cases e : (outs x y z most a i)[(vtO x y z most (a + (i : Int))).toNat]? with
        | none => simp; omega
        | some m => have := ih m (List.mem_of_getElem? e); simp; omega
    · have := ih n h; omega
def nY (x y z:gV)(most a:Int)(n:Nat):List fC:=(List.range n).map fun (i:Nat)=>vtS x y z most (a+(i:Int))
theorem smps_succ (x y z:gV)(most a:Int)(n:Nat):nY x y z most a (n+1)=nY x y z most a n++ [vtS x y z most (a+(n:Int))]:=by
  unfold nY; rw [List.range_succ,List.map_append]; rfl
theorem aBj (x y z:gV)(most a:Int)(n:Nat):(nY x y z most a n).length=n:=by unfold nY; simp
theorem bump_ok {x y z : gV} {most a : Int} {i : Nat} (hi : i ≤ 100000) {w : Int} (hw : -1 ≤ w ∧ w ≤ 2) : (gJ (decide (0 ≤ w)) fun x1569 => gK x1569 (gG (at' (outs x y z most a i) w) fun x1572 => gJ (IntKind.i64.wrap (x1572 + 1)) fun x1583 => gG (at' (outs x y z most a i) w) fun _ => gG (set' (outs x y z most a i) w x1583) fun x1596 => some x1596) (some (outs x y z most a i))) = some (bump (outs x y z most a i) w) := by
  have hl := aBr x y z most a i
  have hb := aEc x y z most a i
  unfold bump
  rw [yA]
  by_cases c : 0 ≤ w
  · obtain ⟨k, rfl⟩ : ∃ k : Nat, w = k := ⟨w.toNat, by omega⟩
    obtain ⟨n, hn⟩ : ∃ n, (outs x y z most a i)[k]? = some n := ⟨_, List.getElem?_eq_getElem (by omega)⟩
    have := hb n (List.mem_of_getElem? hn)
    have hs : set' (outs x y z most a i) (k : Int) (n + 1) = some ((outs x y z most a i).set k (n + 1)) := by
      unfold set'
      rw [if_pos ⟨by omega, by omega⟩, Int.toNat_natCast]
    rw [decide_eq_true c, yR, dZ hn, zM, yA, Go.OB.wrap_i64 (n := n + 1) (by omega) (by omega), zM, hs, zM, if_pos c, Int.toNat_natCast, List.getD_eq_getElem?_getD, hn]
    rfl
  · rw [decide_eq_false c, yY, if_neg c]
theorem vot_some {l:List gV}(h:kE l=0){x y z:gV}(hx:x ∈ l)(hy:y ∈ l)(hz:z ∈ l){most:Int}(hm:0≤most∧most≤1125899906842624)(t:Int){A:Arr 3 fG}(hA:A.l= [inT t x,inT t y,inT t z]):
    Fab [inT t x,inT t y,inT t z] most=some (vot (inT t x) (inT t y) (inT t z) most)∧Fbz A most=some ((vot (inT t x) (inT t y) (inT t z) most).1,vtO x y z most t,(vot (inT t x) (inT t y) (inT t z) most).2.1)∧(-1≤vtO x y z most t∧vtO x y z most t≤2):=
  vote_eq (aT h hx t) (aT h hy t) (aT h hz t) hm hA
theorem L2_vote {l : List gV} (h : kE l = 0) {x y z : gV} (hx : x ∈ l) (hy : y ∈ l) (hz : z ∈ l) {most : Int} (hm : 0 ≤ most ∧ most ≤ 1125899906842624) {a b : Int} (hs : 0 ≤ a ∧ a ≤ b ∧ b ≤ 4194303 ∧ b - a + 1 ≤ 20000) :
    Fca most b [x, y, z] (a, [], [0, 0, 0]) = some (nY x y z most a (spn a b), outs x y z most a (spn a b)) := by
  obtain ⟨s1, s2, s3, s4⟩ := hs
  have hn : spn a b = (b - a + 1).toNat := rfl
  unfold Fca
  rw [show (a, ([] : List fC), ([0, 0, 0] : List Int)) = (a + ((0 : Nat) : Int), nY x y z most a 0, outs x y z most a 0) by show _ = (a + 0, _, _); rw [Int.add_zero]; rfl]
  refine aS (β := List fC × List Int) (γ := Int × List fC × List Int) (fun i => (a + (i : Int), nY x y z most a i, outs x y z most a i)) (List.replicate (spn a b) ()) (some (nY x y z most a (spn a b), outs x y z most a (spn a b))) (by simp; omega) (fun kk i u hu hi => ?_) (fun kk => ?_)
  · rw [List.length_replicate] at hi
    have hl := aBj x y z most a i
    obtain ⟨v1, -, v3⟩ := vot_some h hx hy hz hm (a + (i : Int)) (A := ⟨[inT (a + (i : Int)) x, inT (a + (i : Int)) y, inT (a + (i : Int)) z], rfl⟩) rfl
    have bo := bump_ok (x := x) (y := y) (z := z) (most := most) (a := a) (i := i) (by omega) v3
    simp only [yA] at bo ⊢
    rw [decide_eq_true (by omega : a + (i : Int) ≤ b), yR]
    unfold Fb3
    rw [some_good h [x, y, z] (by intro w hw; simp only [List.mem_cons, List.not_mem_nil, or_false] at hw; rcases hw with rfl | rfl | rfl <;> assumption) (by simp) _ (by omega) (by omega), zM, zM]
    show gG (Fab [inT (a + (i : Int)) x, inT (a + (i : Int)) y, inT (a + (i : Int)) z] most) _ = _
    rw [v1, zM]
    rw [wP (by omega) (by omega)]
    have e2 : (vot (inT (a + (i : Int)) x) (inT (a + (i : Int)) y) (inT (a + (i : Int)) z) most).2.2 = vtO x y z most (a + (i : Int)) := rfl
    rw [e2, bo]
    rw [smps_succ]
    show _ = kk (a + ((i + 1 : Nat) : Int), _, bump _ _)
    rw [wrap_i64 (n := a + (i : Int) + 1) (by omega) (by omega), show a + (i : Int) + 1 = a + ((i + 1 : Nat) : Int) by omega]
    unfold vtS
    cases (vot (inT (a + (i : Int)) x) (inT (a + (i : Int)) y) (inT (a + (i : Int)) z) most).2.1
    · simp only [yY, zM, Bool.false_eq_true, if_false]
      rw [ap24 (by omega), zM]
    · simp only [yR, zM, if_true]
      rw [ap24 (by omega), zM]
  · rw [List.length_replicate]
    simp only [yA]
    rw [decide_eq_false (by omega : ¬ a + ((spn a b : Nat) : Int) ≤ b), yY]
end Go.Lf
