/- The law of clashes. -/
import Derived.Test.YtgmikmoapfmedaaGreatDoorFi5
namespace Go.Lf
open Go.OB
def twE (l:List gW)(x:Twins):Int:=if aJ l x.A<0∨aJ l x.B<0 then 4 else if x.Most<0∨1125899906842624<x.Most then 9 else 0
def twF (l:List gW)(tw:List Twins):Option Int:=dU (fun _ x=>if twE l x=0 then none else some (some (twE l x))) (some 0) tw 0
theorem uC (l : List gW) : ∀ (tw : List Twins) (i : Nat), ∃ e, dU (fun _ x => if twE l x = 0 then none else some (some (twE l x))) (some (0 : Int)) tw i = some e ∧ (e = 0 → ∀ x ∈ tw, twE l x = 0)
  | [], i => ⟨0, rfl, by simp⟩
  | x :: tw, i => by
    rw [dU]
    by_cases c : twE l x = 0
    · obtain ⟨e, h1, h2⟩ := uC l tw (i + 1)
      refine ⟨e, by simp only [c, if_true]; exact h1, fun h y hy => ?_⟩
      rcases List.mem_cons.1 hy with rfl | hy
      · exact c
      · exact h2 h y hy
    · exact ⟨twE l x, by simp only [c, if_false], fun h => absurd h c⟩
def twC (l:List gW)(tw:List Twins):Int:=if 30<tw.length then 3 else (twF l tw).getD 0
theorem aDu {l : List gW} {x : Twins} (h : twE l x = 0) : ¬ aJ l x.A < 0 ∧ ¬ aJ l x.B < 0 ∧ 0 ≤ x.Most ∧ x.Most ≤ 1125899906842624 := by
  unfold twE at h
  split at h
  · exact absurd h (by decide)
  · split at h
    · exact absurd h (by decide)
    · omega
theorem vU (l : List gW) (tw : List Twins) (hl : l.length ≤ 9223372036854775807) (ht : tw.length ≤ 9223372036854775807) : Fbr l tw = some (twC l tw) := by
  obtain ⟨e, h1, -⟩ := uC l tw 0
  unfold Fbr twC
  simp only [yF]
  by_cases c : 30 < tw.length
  · rw [decide_eq_true (by omega), yY, if_pos c]
  · rw [decide_eq_false (by omega), xE, if_neg c, dY]
    unfold Fd7
    rw [dA tw (fun _ x => if twE l x = 0 then none else some (some (twE l x))) (some 0) ht ?_ ?_]
    · unfold twF; rw [h1]; rfl
    · intro kk i x hx hi
      simp only [yF]
      rw [dN hi, yY, bV hx, zN, jT l x.A hl, zN, jT l x.B hl, fwithin, aI hi ht]
      simp only [zN]
      unfold twE
      by_cases a : aJ l x.A < 0
      · simp [a, gQ, gG]
      · by_cases b : aJ l x.B < 0
        · simp [a, b, gQ, gG]
        · by_cases m1 : 0 ≤ x.Most <;> by_cases m2 : x.Most ≤ 1125899906842624
          · have z : ¬ (x.Most < 0 ∨ 1125899906842624 < x.Most) := by omega
            simp [a, b, m1, m2, z, gQ, gG]
          · have z : (x.Most < 0 ∨ 1125899906842624 < x.Most) := by omega
            simp [a, b, m1, m2, z, gQ, gG]
          · have z : (x.Most < 0 ∨ 1125899906842624 < x.Most) := by omega
            simp [a, b, m1, m2, z, gQ, gG]
          · have z : (x.Most < 0 ∨ 1125899906842624 < x.Most) := by omega
            simp [a, b, m1, m2, z, gQ, gG]
    · intro kk
      simp only [yF]
      rw [dO]; rfl
theorem rTwins_L1 (l : List gW) (tw : List Twins) (hl : l.length ≤ 9223372036854775807) (ht : tw.length ≤ 9223372036854775807) (k : Unit → Option (List fE × Int)) : Fck l tw k 0 = if (twF l tw).getD 0 = 0 then k () else some ([], (twF l tw).getD 0) := by
  have key : ∀ (tw : List Twins) (i : Nat), dU (fun _ x => if twE l x = 0 then none else some (some (([] : List fE), twE l x))) (k ()) tw i = if (dU (fun _ x => if twE l x = 0 then none else some (some (twE l x))) (some (0 : Int)) tw i).getD 0 = 0 then k () else some ([], (dU (fun _ x => if twE l x = 0 then none else some (some (twE l x))) (some (0 : Int)) tw i).getD 0) := by
    intro tw
    induction tw with
    | nil => intro i; rfl
    | cons x tw ih =>
      intro i
      rw [dU, dU]
      by_cases c : twE l x = 0
      · simp only [c, if_true]; exact ih (i + 1)
      · simp only [c, if_false]; simp [c]
  unfold Fck
  rw [dA tw (fun _ x => if twE l x = 0 then none else some (some (([] : List fE), twE l x))) (k ()) ht ?_ ?_]
  · exact key tw 0
  · intro kk i x hx hi
    simp only [yF]
    rw [dN hi, yY, bV hx, zN, jY l x.A hl, zN]
    simp only [zN]
    rw [jY l x.B hl, out7, aI hi ht]
    unfold twE
    by_cases a : aJ l x.A < 0
    · simp [a, gQ, gG]
    · by_cases b : aJ l x.B < 0
      · simp [a, b, gQ, gG]
      · by_cases m1 : x.Most < 0 <;> by_cases m2 : 1125899906842624 < x.Most <;> simp [a, b, m1, m2, gQ, gG]
  · intro kk
    simp only [yF]
    rw [dO]; rfl
def pU (l:List gW)(tw:List Twins)(a b:Int):Nat→List fE
  | 0=>[]
  | k+1=>match tw[k]? with
    | some x=>(aK (k:Int) a (cO (trk l x.A) (trk l x.B) x.Most) (pU l tw a b k) (spn a b)).1
    | none=>pU l tw a b k
theorem rC {l : List gW} {tw : List Twins} {a b : Int} (hs : spn a b ≤ 20000) : ∀ k, (pU l tw a b k).length ≤ 20000 * k
  | 0 => by show 0 ≤ _; omega
  | k + 1 => by
    have h := rC (l := l) (tw := tw) hs k
    rw [pU]
    split
    · rename_i x hx
      have := qX (k : Int) a (cO (trk l x.A) (trk l x.B) x.Most) (pU l tw a b k) (spn a b)
      omega
    · omega
theorem aCj (l : List gW) (tw : List Twins) (a b : Int) (hl : okL jX l) (ht : tw.length ≤ 9223372036854775807) : ∃ X, Faz l tw a b = some X ∧ Fbf l tw a b = some X ∧ X.1.length ≤ 1000000 := by
  have h9 := hl.1
  have c1 := uH l hl
  have c2 := sJ l hl
  rw [aEc] at c1 c2
  unfold Faz Fbf
  rw [c1, c2, zN, zN]
  simp only [yF]
  by_cases z : tZ l = 0
  rotate_left
  · rw [decide_eq_true (by simpa using z), yY, yY]
    exact ⟨_, rfl, rfl, by simp⟩
  rw [decide_eq_false (by simpa using z), xE, xE, vU l tw h9 ht, zN]
  unfold twC
  by_cases c : 30 < tw.length
  · rw [if_pos c, decide_eq_true (show (3 : Int) ≠ 0 by decide), yY, decide_eq_true (show (30 : Int) < (tw.length : Int) by omega), yY]
    exact ⟨_, rfl, rfl, by simp⟩
  rw [if_neg c, decide_eq_false (show ¬ (30 : Int) < (tw.length : Int) by omega), xE, dY, rTwins_L1 l tw h9 ht, aAx, zN, tY, zN]
  obtain ⟨e, e1, e2⟩ := uC l tw 0
  have e3 : (twF l tw).getD 0 = e := by unfold twF; rw [e1]; rfl
  rw [e3]
  by_cases y : e = 0
  rotate_left
  · rw [decide_eq_true (by simpa using y), yY, if_neg y]
    exact ⟨_, rfl, rfl, by simp⟩
  rw [decide_eq_false (by simpa using y), xE, if_pos y]
  by_cases s : aDi a b = 0
  rotate_left
  · rw [decide_eq_true (by simpa using s), yY, yY]
    exact ⟨_, rfl, rfl, by simp⟩
  rw [decide_eq_false (by simpa using s), xE, xE]
  have hs := spn_ok s
  have hn : spn a b = (b - a + 1).toNat := rfl
  have tok := e2 y
  have one : ∀ (i : Nat) (x : Twins), tw[i]? = some x → pU l tw a b (i + 1) = (aK (i : Int) a (cO (trk l x.A) (trk l x.B) x.Most) (pU l tw a b i) (spn a b)).1 := fun i x hx => by rw [pU, hx]
  have p1 : Fby l tw a b (tw.length : Int) ([], 0) = some (pU l tw a b tw.length) := by
    unfold Fby
    refine nI (β := List fE) (γ := List fE × Int) (fun i => (pU l tw a b i, (i : Int))) tw (some (pU l tw a b tw.length)) ht ?_ ?_
    · intro kk i x hx hi
      obtain ⟨t1, t2, t3⟩ := aDu (tok x (List.mem_of_getElem? hx))
      obtain ⟨a1, a2, -⟩ := wY t1
      obtain ⟨b1, b2, -⟩ := wY t2
      have hlen := rC (l := l) (tw := tw) (a := a) (b := b) (by omega) i
      simp only [yF]
      rw [dN hi, yY, bV hx, zN, jT l x.A h9, zN, a1, zN, jT l x.B h9, zN, b1, zN, L2_ok z hs a2 b2 t3 (by omega), zN, aI hi ht, one i x hx]
    · intro kk
      simp only [yF]
      rw [dO, xE]
  have p2 : Fcc l tw a b ([], 0) = some (pU l tw a b tw.length) := by
    unfold Fcc
    refine nI (β := List fE) (γ := List fE × Int) (fun i => (pU l tw a b i, (i : Int))) tw (some (pU l tw a b tw.length)) ht ?_ ?_
    · intro kk i x hx hi
      obtain ⟨t1, t2, t3⟩ := aDu (tok x (List.mem_of_getElem? hx))
      obtain ⟨a1, a2, -⟩ := wY t1
      obtain ⟨b1, b2, -⟩ := wY t2
      have hlen := rC (l := l) (tw := tw) (a := a) (b := b) (by omega) i
      simp only [yF]
      rw [dN hi, yY, bV hx, zN, jY l x.A h9, zN, a1, zN, zN, jY l x.B h9, zN, b1, zN, rL3_ok z hs (bV hx) a2 b2 t3 (by omega), zN, aI hi ht, one i x hx]
    · intro kk
      simp only [yF]
      rw [dO, xE]
  rw [p1, zN, p2, zN]
  refine ⟨_, rfl, rfl, ?_⟩
  have := rC (l := l) (tw := tw) (a := a) (b := b) (by omega) tw.length
  show (pU l tw a b tw.length).length ≤ _
  omega
theorem ink_Ints (p : gK) (l : List Int) {b : Nat} (hp : p.out.length ≤ b) (h : b + 22 + 22 * l.length ≤ 100000000000000) : Gr (Fa0 p l) (b + 22 + 22 * l.length) := by
  unfold Fa0
  simp only [yF]
  refine (aAo p _ hp (by omega)).bind fun q hq => ?_
  unfold Fct
  refine wG (fun (i : Nat) (s : List Int) => ((i : Int), s)) l (fun i s => s.length ≤ b + 22 + 22 * i) (fun (r : gK) => r.out.length ≤ b + 22 + 22 * l.length) (by omega) ?_ ?_ _ (by simpa using hq)
  · intro kk i s x hx hi hI
    obtain ⟨r, h1, h2⟩ := aAo (gK.mk s) x hI (by omega)
    refine ⟨r.out, by omega, ?_⟩
    simp only [yF]
    rw [dN hi, yY, bV hx, zN, h1, zN, aI hi (by omega)]
  · intro kk s hI
    simp only [yF]
    rw [dO, xE]
    exact ⟨_, rfl, hI⟩
theorem aBv (p : gK) (l : List fE) {b : Nat} (hp : p.out.length ≤ b) (h : b + 22 + 88 * l.length ≤ 100000000000000) : Gr (Fax p l) (b + 22 + 88 * l.length) := by
  unfold Fax
  simp only [yF]
  refine (aAo p _ hp (by omega)).bind fun q hq => ?_
  unfold Fdr
  refine wG (fun (i : Nat) (s : List Int) => ((i : Int), s)) l (fun i s => s.length ≤ b + 22 + 88 * i) (fun (r : gK) => r.out.length ≤ b + 22 + 88 * l.length) (by omega) ?_ ?_ _ (by simpa using hq)
  · intro kk i s x hx hi hI
    obtain ⟨r, h1, h2⟩ := ink_Ints (gK.mk s) [x.Twins, x.From, x.To] hI (by simp; omega)
    refine ⟨r.out, by simp at h2; omega, ?_⟩
    simp only [yF]
    rw [dN hi, yY, bV hx, zN, zN, zN, h1, zN, aI hi (by omega)]
  · intro kk s hI
    simp only [yF]
    rw [dO, xE]
    exact ⟨_, rfl, hI⟩
theorem aCw:Fcl=some true:=by kernel_rfl
theorem aCe (l:List gW)(tw:List Twins)(a b:Int)(hl:okL jX l)(ht:okL aAh tw)(_:i64 a)(_:i64 b):Fb8 l tw a b=some true:=by
  obtain ⟨⟨X,e⟩,h1,h2,h3⟩:=aCj l tw a b hl ht.1
  obtain ⟨r,h4,-⟩:=aBv (gK.mk []) X (b:=0) (by simp) (by simp only at h3; omega)
  unfold Fb8 Fbl
  rw [h1,zN]
  dsimp only
  rw [h2,zN]
  dsimp only
  rw [h4]
  simp only [yF,zN,decide_true,yY,aCw]
end Go.Lf
