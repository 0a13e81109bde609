/- A vote lies between the numbers of the three. -/
import Derived.Test.YtgmikmoapfmedaaGreatDoorFv6
namespace Go.Lf
open Go.OB
theorem aDw {α:Type}(p:α→Bool): ∀(l:List α) (i:Nat),aF (fun _ y=>p y) l i=false→ ∀y ∈ l,p y=false
  | [],_,_,y,hy=>by cases hy
  | x :: l,i,h,y,hy=>by
    rw [aF] at h
    simp only [Bool.or_eq_false_iff] at h
    rcases List.mem_cons.1 hy with rfl | hy
    · exact h.1
    · exact aDw p l (i+1) h.2 y hy
theorem nm_lt {l:List gV}(h:kE l=0){i j:Nat}{u v:gV}(hu:l[i]? =some u)(hv:l[j]? =some v)(hij:i<j):u.Name≠v.Name:=by
  have q:=((aAi l).1 h).2 j v hv
  obtain ⟨-,q2,-⟩:=(uS l j v).1 q
  have m:u ∈ l.take j:=List.mem_of_getElem? (i:=i) (by rw [List.getElem?_take,if_pos hij]; exact hu)
  have:=aDw (fun y:gV=>decide (y.Name=v.Name)) _ _ q2 u m
  simpa using this
theorem wV {l:List gV}(h:kE l=0){u v:gV}(hu:u ∈ l)(hv:v ∈ l)(e:u.Name=v.Name):u=v:=by
  obtain ⟨i,hi⟩:=List.getElem?_of_mem hu
  obtain ⟨j,hj⟩:=List.getElem?_of_mem hv
  rcases Nat.lt_trichotomy i j with c | c | c
  · exact absurd e (nm_lt h hi hj c)
  · subst c; rw [hi] at hj; exact Option.some.inj hj
  · exact absurd e.symm (nm_lt h hj hi c)
theorem nm_pw {l:List gV}(h:kE l=0):l.Pairwise fun a b=>a.Name≠b.Name:=by
  rw [List.pairwise_iff_getElem]
  intro i j hi hj hij
  exact nm_lt h (List.getElem?_eq_getElem hi) (List.getElem?_eq_getElem hj) hij
def isV (x y z:Str)(t:Int)(u:gV):Bool:=(inT t u).Known && (decide (u.Name=x) || (decide (u.Name=y) || decide (u.Name=z)))
def kT (l:List gV)(x y z:Str)(t:Int):List Int:=(l.filter (isV x y z t)).map fun u=>(inT t u).N
theorem aCy (l : List gV) (x y z : Str) (t : Int) (hl : l.length ≤ 50) : Fbw l [x, y, z] (l.map (inT t)) ([], 0) = some (kT l x y z t) := by
  unfold Fbw
  refine aS (β := List Int) (γ := List Int × Int) (fun i => (kT (l.take i) x y z t, (i : Int))) l (some (kT l x y z t)) (by omega) ?_ ?_
  · intro kk i u hu hi
    have hu2 : (l.map (inT t))[i]? = some (inT t u) := by rw [List.getElem?_map, hu]; rfl
    have hlen : (kT (l.take i) x y z t).length ≤ 50 := by
      unfold kT
      rw [List.length_map]
      have h1 := List.length_filter_le (isV x y z t) (l.take i)
      rw [List.length_take] at h1
      omega
    have key : ∀ (k d1 d2 d3 : Bool) (f : Bool → Option (List Int)), gG (gK k (gK d1 (some true) (gK d2 (some true) (some d3))) (some false)) f = f (k && (d1 || (d2 || d3))) := by
      intro k d1 d2 d3 f
      cases k <;> cases d1 <;> cases d2 <;> rfl
    have es : kT (l.take (i + 1)) x y z t = kT (l.take i) x y z t ++ (if isV x y z t u = true then [(inT t u).N] else []) := by
      unfold kT
      rw [take_snoc hu, List.filter_append, List.map_append]
      cases c : isV x y z t u <;> simp [c]
    simp only [yA]
    rw [cZ hi, yR, dZ hu2, dZ hu, show at' ([x, y, z] : List Str) 0 = some x from rfl, show at' ([x, y, z] : List Str) 1 = some y from rfl, show at' ([x, y, z] : List Str) 2 = some z from rfl, aN hi (by omega), es]
    simp only [zM]
    rw [key]
    show gG (gK (isV x y z t u) _ _) _ = _
    cases c : isV x y z t u
    · rw [yY, zM]; simp
    · rw [yR, ap8v (by omega), zM, zM]; simp
  · intro kk
    simp only [yA]
    rw [bC, yY, List.take_length]
theorem mid {l:List gV}(h:kE l=0){x y z:Str}(cx: ¬dO l x<0)(cy: ¬dO l y<0)(cz: ¬dO l z<0){most:Int}(hm:0≤most∧most≤1125899906842624)(t:Int)(h3:(kT l x y z t).length=3): ∃p q r,srt (kT l x y z t)= [p,q,r]∧p≤(vtS (trk l x) (trk l y) (trk l z) most t).N∧(vtS (trk l x) (trk l y) (trk l z) most t).N≤r:=by
  obtain ⟨-,mx,ex⟩:=aH cx
  obtain ⟨-,my,ey⟩:=aH cy
  obtain ⟨-,mz,ez⟩:=aH cz
  have pw:(l.filter (isV x y z t)).Pairwise fun a b=>a.Name≠b.Name:=(nm_pw h).filter _
  have hlen:(l.filter (isV x y z t)).length=3:=by rw [← h3]; unfold kT; rw [List.length_map]
  have hmem: ∀u ∈ l.filter (isV x y z t),(inT t u).Known=true∧(u=trk l x∨u=trk l y∨u=trk l z):=fun u hu=>by
    obtain ⟨m,c⟩:=List.mem_filter.1 hu
    unfold isV at c
    simp only [Bool.and_eq_true,Bool.or_eq_true,decide_eq_true_eq] at c
    refine ⟨c.1,?_⟩
    rcases c.2 with c | c | c
    · exact Or.inl (wV h m mx (c.trans ex.symm))
    · exact Or.inr (Or.inl (wV h m my (c.trans ey.symm)))
    · exact Or.inr (Or.inr (wV h m mz (c.trans ez.symm)))
  unfold kT
  match hf:l.filter (isV x y z t),hlen with
  | [u,v,w],_=>
    rw [hf] at pw hmem
    obtain ⟨ku,du⟩:=hmem u (by simp)
    obtain ⟨kv,dv⟩:=hmem v (by simp)
    obtain ⟨kw,dw⟩:=hmem w (by simp)
    simp only [List.pairwise_cons,List.mem_cons,List.not_mem_nil,or_false,forall_eq_or_imp,forall_eq] at pw
    obtain ⟨⟨n1,n2⟩,n3,-⟩:=pw
    have w1:u≠v:=fun e=>n1 (congrArg _ e)
    have w2:u≠w:=fun e=>n2 (congrArg _ e)
    have w3:v≠w:=fun e=>n3 (congrArg _ e)
    obtain ⟨p,q,r,s1,s2,s3,s4⟩:=srt3 (inT t u).N (inT t v).N (inT t w).N
    obtain ⟨p',q',r',s1',s2',s3',s4'⟩:=srt3 (inT t (trk l x)).N (inT t (trk l y)).N (inT t (trk l z)).N
    refine ⟨p,q,r,s1,?_⟩
    have fin:(inT t (trk l x)).Known=true→(inT t (trk l y)).Known=true→(inT t (trk l z)).Known=true→(vtS (trk l x) (trk l y) (trk l z) most t).N=q':=fun k1 k2 k3=>by
      have e:=aAp (aT h mx t) (aT h my t) (aT h mz t) hm
      have ek:kn [inT t (trk l x),inT t (trk l y),inT t (trk l z)]= [(inT t (trk l x)).N,(inT t (trk l y)).N,(inT t (trk l z)).N]:=by
        unfold kn; simp [k1,k2,k3]
      rw [ek,s1'] at e
      have e1:(vot (inT t (trk l x)) (inT t (trk l y)) (inT t (trk l z)) most).1=q':=congrArg (·.1) e
      have e2:(vot (inT t (trk l x)) (inT t (trk l y)) (inT t (trk l z)) most).2.1=true:=congrArg (·.2) e
      unfold vtS
      dsimp only
      rw [if_pos e2,e1]
    rcases du with rfl | rfl | rfl<;>rcases dv with rfl | rfl | rfl<;>rcases dw with rfl | rfl | rfl<;>first | exact absurd rfl w1 | exact absurd rfl w2 | exact absurd rfl w3 | skip
    all_goals
      rw [fin (by assumption) (by assumption) (by assumption)]
      omega
theorem vW {l:List gV}{x y z:Str}{most a b:Int}(t:kE l=0)(v:vtE l x y z=0)(m:0≤most∧most≤1125899906842624)(s:sS a b=0):kW l [x,y,z] most a b=(gV.mk x (Series.mk (trk l x).Series.Den (nY (trk l x) (trk l y) (trk l z) most a (spn a b))) 63,outs (trk l x) (trk l y) (trk l z) most a (spn a b),0):=by
  unfold kW
  rw [if_neg (by simp [t])]
  show uK l x y z most a b=_
  unfold uK
  rw [if_neg (by simpa using v),if_neg (not_not_intro m),if_neg (by simpa using s)]
theorem aDl {l : List gV} {ns : List Str} {most a b : Int} (e : (kW l ns most a b).2.2 = 0) : ∃ x y z, ns = [x, y, z] ∧ kE l = 0 ∧ vtE l x y z = 0 ∧ (0 ≤ most ∧ most ≤ 1125899906842624) ∧ sS a b = 0 := by
  by_cases t : kE l = 0
  rotate_left
  · unfold kW at e
    rw [if_pos t] at e; exact absurd e t
  by_cases n3 : ns.length = 3
  rotate_left
  · rw [not3 t n3] at e; exact absurd e (by decide)
  obtain ⟨x, y, z, rfl⟩ := three n3
  have eR : kW l [x, y, z] most a b = uK l x y z most a b := by
    unfold kW
    rw [if_neg (by simp [t])]
  rw [eR] at e
  unfold uK at e
  by_cases v : vtE l x y z = 0
  rotate_left
  · rw [if_pos v] at e; exact absurd e v
  rw [if_neg (by simpa using v)] at e
  by_cases m : 0 ≤ most ∧ most ≤ 1125899906842624
  rotate_left
  · rw [if_pos m] at e; exact absurd e (by decide)
  rw [if_neg (not_not_intro m)] at e
  by_cases s : sS a b = 0
  rotate_left
  · rw [if_pos s] at e; exact absurd e s
  exact ⟨x, y, z, rfl, t, v, m, s⟩
theorem aEd (x y z:gV)(most a:Int){n i:Nat}(hi:i<n):(nY x y z most a n)[i]? =some (vtS x y z most (a+(i:Int))):=by
  unfold nY
  rw [List.getElem?_map,List.getElem?_range hi]; rfl
theorem aBk (l : List gV) (ns : List Str) (most a b : Int) (hl : okL kY l) (hn : okL okS ns) (_ : i64 most) (_ : i64 a) (_ : i64 b) : Fbm l ns most a b = some true := by
  have h1 := aBv l ns most a b hl hn.1
  unfold Fbm
  rw [h1, zM]
  by_cases e : (kW l ns most a b).2.2 = 0
  rotate_left
  · generalize kW l ns most a b = X at *
    obtain ⟨x, o, e'⟩ := X
    dsimp only
    simp only [yA]
    rw [decide_eq_true (show e' ≠ 0 from e), yR, sO, zM]
  obtain ⟨x, y, z, rfl, t, v, m, s⟩ := aDl e
  have h2 := aBv l [z, x, y] most a b hl (by simp)
  have hs := spn_ok s
  have hsn : spn a b = (b - a + 1).toNat := rfl
  obtain ⟨cx, cy, cz⟩ := aAd v
  obtain ⟨-, mx, -⟩ := aH cx
  obtain ⟨-, my, -⟩ := aH cy
  obtain ⟨-, mz, -⟩ := aH cz
  have hl50 := (pU t).1
  rw [vW t v m s]
  rw [vW t (vtE_rot v) m s] at h2
  dsimp only
  simp only [yA]
  rw [decide_eq_false (by simp : ¬ ((0 : Int) ≠ 0)), yY, show at' ([x, y, z] : List Str) 2 = some z from rfl, zM, show at' ([x, y, z] : List Str) 0 = some x from rfl, zM, show at' ([x, y, z] : List Str) 1 = some y from rfl, zM, h2, zM]
  dsimp only
  rw [decide_eq_false (by simp : ¬ ((0 : Int) ≠ 0)), yY]
  simp only [aBj]
  rw [Go.OB.wrap_i64 (n := b - a) (by omega) (by omega), Go.OB.wrap_i64 (n := b - a + 1) (by omega) (by omega), decide_eq_false (show ¬ (((spn a b : Nat) : Int) ≠ b - a + 1) by omega)]
  simp only [zM, yY, dM]
  have key : Fbk l [x, y, z] a b (gV.mk x (Series.mk (trk l x).Series.Den (nY (trk l x) (trk l y) (trk l z) most a (spn a b))) 63) (gV.mk z (Series.mk (trk l z).Series.Den (nY (trk l z) (trk l x) (trk l y) most a (spn a b))) 63, outs (trk l z) (trk l x) (trk l y) most a (spn a b), 0) (fun _ => gG Fal fun x5891 => some x5891) 0 = some true := by
    unfold Fbk
    refine aS (β := Bool) (γ := Int) (fun i => (i : Int)) (List.replicate (spn a b) ()) (some true) (by simp; omega) (fun kk i u hu hi => ?_) (fun kk => ?_)
    · rw [List.length_replicate] at hi
      simp only [yA, dM]
      rw [Go.OB.wrap_i64 (n := b - a) (by omega) (by omega), decide_eq_true (by omega : (i : Int) ≤ b - a), yR, dZ (aEd _ _ _ _ _ hi), zM, dZ (aEd _ _ _ _ _ hi), zM, vtS_rot t mx my mz m]
      rw [decide_eq_true rfl, show (!true) = false from rfl, yY, Go.OB.wrap_i64 (n := a + (i : Int)) (by omega) (by omega)]
      obtain ⟨X, i1, -, i2⟩ := Inputs_eq l (a + (i : Int)) hl
      obtain rfl := i2 t (by omega) (by omega)
      rw [i1, zM]
      dsimp only
      rw [decide_eq_false (by simp : ¬ ((0 : Int) ≠ 0)), yY, aCy l x y z _ hl50, zM]
      have w1 : IntKind.i64.wrap ((i : Int) + 1) = ((i + 1 : Nat) : Int) := by rw [Go.OB.wrap_i64 (by omega) (by omega)]; omega
      rw [w1]
      by_cases c3 : (kT l x y z (a + (i : Int))).length = 3
      · obtain ⟨p, q, r, s1, s2, s3⟩ := mid t cx cy cz m (a + (i : Int)) c3
        rw [decide_eq_true (show ((kT l x y z (a + (i : Int))).length : Int) = 3 by omega), yR, vT _ (by omega), zM, s1, show at' ([p, q, r] : List Int) 0 = some p from rfl, show at' ([p, q, r] : List Int) 2 = some r from rfl]
        simp only [zM]
        rw [decide_eq_false (show ¬ (vtS (trk l x) (trk l y) (trk l z) most (a + (i : Int))).N < p by omega), decide_eq_false (show ¬ r < (vtS (trk l x) (trk l y) (trk l z) most (a + (i : Int))).N by omega)]
        rfl
      · rw [decide_eq_false (show ¬ ((kT l x y z (a + (i : Int))).length : Int) = 3 by omega), yY]
    · rw [List.length_replicate]
      simp only [yA]
      rw [Go.OB.wrap_i64 (n := b - a) (by omega) (by omega), decide_eq_false (by omega : ¬ ((spn a b : Nat) : Int) ≤ b - a), yY, sO, zM]
  exact key
end Go.Lf
