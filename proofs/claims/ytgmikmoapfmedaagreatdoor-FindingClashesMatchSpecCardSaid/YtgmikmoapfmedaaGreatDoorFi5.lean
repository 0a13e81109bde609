/- Clashes: both programs find the same. -/
import Derived.Test.YtgmikmoapfmedaaGreatDoorFi4
namespace Go.Lf
open Go.OB
def aAh (x:Twins):Prop:=okS x.A∧okS x.B∧i64 x.Most
theorem qP {l : List gW} (h : tZ l = 0) {x : gW} (hx : x ∈ l) (n : Int) : (1 ≤ x.Series.Den ∧ x.Series.Den ≤ 1000000) ∧ -1125899906842624 ≤ (inT n x).N ∧ (inT n x).N ≤ 1125899906842624 := by
  obtain ⟨i, hi⟩ := List.getElem?_of_mem hx
  have q := ((aDx l).1 h).2 i x hi
  obtain ⟨-, -, q2, -⟩ := (aBn l i x).1 q
  obtain ⟨d, hl, hs⟩ := (aDv x.Series).1 q2
  refine ⟨d, ?_⟩
  unfold inT hld
  dsimp only
  cases kLe x.Series.Samples (64 * n + 63) with
  | zero => exact ⟨show (-1125899906842624 : Int) ≤ 0 by decide, show (0 : Int) ≤ 1125899906842624 by decide⟩
  | succ m =>
    dsimp only
    cases hm : x.Series.Samples[m]? with
    | none => exact ⟨show (-1125899906842624 : Int) ≤ 0 by decide, show (0 : Int) ≤ 1125899906842624 by decide⟩
    | some y =>
      dsimp only
      split
      · exact ⟨by decide, by decide⟩
      · have z := hs m y hm
        unfold aAy at z
        split at z
        · exact absurd z (by decide)
        · rename_i c
          simp only [Bool.or_eq_true, Bool.not_eq_true', Bool.and_eq_false_iff, decide_eq_false_iff_not, not_or, Decidable.not_not, not_and] at c
          by_cases c1 : -1125899906842624 ≤ y.N
          · by_cases c2 : y.N ≤ 1125899906842624
            · exact ⟨c1, c2⟩
            · simp [c2] at c
          · simp [c1] at c
def trk0:gW:=gW.mk [] (Series.mk 0 []) 0
def trk (l:List gW)(s:Str):gW:=(at' l (aJ l s)).getD trk0
theorem wY {l : List gW} {s : Str} (h : ¬ aJ l s < 0) : at' l (aJ l s) = some (trk l s) ∧ trk l s ∈ l ∧ (trk l s).Name = s := by
  rcases (pJ l s).2 with ⟨e, -⟩ | ⟨j, x, h1, h2, h3⟩
  · omega
  · have e : at' l (aJ l s) = some x := by rw [h3]; exact bV h1
    have e2 : trk l s = x := by unfold trk; rw [e]; rfl
    rw [e2]
    exact ⟨e, List.mem_of_getElem? h1, h2⟩
def cO (a b:gW)(most t:Int):Bool:=
  (inT t a).Known && (inT t b).Known && decide (most * b.Series.Den<(inT t a).N * b.Series.Den - (inT t b).N * a.Series.Den∨most * b.Series.Den<(inT t b).N * a.Series.Den - (inT t a).N * b.Series.Den)
theorem two_good {l : List gW} (h : tZ l = 0) {a b : gW} (ha : a ∈ l) (hb : b ∈ l) (n : Int) (h0 : 0 ≤ n) (h1 : n ≤ 4194303) : Fa2 [a, b] n = some [inT n a, inT n b] := by
  have key : ∀ x ∈ l, Faw x.Series (64 * n + 63) x.Long = some (hld x.Series (64 * n + 63) x.Long) := fun x hx => by
    obtain ⟨i, hi⟩ := List.getElem?_of_mem hx
    obtain ⟨q1, q2, q3⟩ := (aBt h).2 i x hi
    exact Held_eq _ _ _ q1 q2 q3 ⟨by omega, by omega⟩
  unfold Fa2 Fc4
  simp only [yF]
  refine (congrArg (fun o => gG o fun g => some g) (nI (fun (i : Nat) => (([a, b].take i).map (inT n), (i : Int))) [a, b] (some [inT n a, inT n b]) (by simp) ?_ ?_)).trans (zN _ _)
  · intro kk i x hx hi
    have hx2 : x ∈ l := by
      have := List.mem_of_getElem? hx
      simp only [List.mem_cons, List.not_mem_nil, or_false] at this
      rcases this with rfl | rfl <;> assumption
    simp only [yF]
    rw [dN hi, yY, bV hx, zN, aDs h0 h1, key x hx2, zN, app16 _ _ (by simp; omega), zN, aI hi (by simp), take_snoc hx, List.map_append]
    rfl
  · intro kk
    simp only [yF]
    rw [dO]; rfl
theorem clash_eq {l:List gW}(h:tZ l=0){a b:gW}(ha:a ∈ l)(hb:b ∈ l){most n:Int}(hk:0≤most∧most≤1125899906842624)(h0:0≤n)(h1:n≤4194303):Fa3 a b most n=some (cO a b most n):=by
  obtain ⟨d1,n1⟩:=qP h ha n
  obtain ⟨d2,n2⟩:=qP h hb n
  have q:=clash_num n1 n2 d1 d2 hk
  unfold Fa3 Fca cO
  simp only [yF] at q ⊢
  rw [two_good h ha hb n h0 h1,zN,zN]
  show gG (some (inT n a)) _=_
  rw [zN]
  show gG (some (inT n b)) _=_
  rw [zN,q]
  cases (inT n a).Known<;>cases (inT n b).Known<;>rfl
theorem rclash_eq {l:List gW}(h:tZ l=0){a b:gW}(ha:a ∈ l)(hb:b ∈ l){most n:Int}(hk:0≤most∧most≤1125899906842624)(h0:0≤n)(h1:n≤4194303):(gQ (inT n a).Known (gQ (inT n b).Known (Fai (inT n a).N a.Series.Den (inT n b).N b.Series.Den most) (some false)) (some false))=some (cO a b most n):=by
  obtain ⟨d1,n1⟩:=qP h ha n
  obtain ⟨d2,n2⟩:=qP h hb n
  rw [differ_eq n1 n2 d1 d2 hk]
  unfold cO
  cases (inT n a).Known<;>cases (inT n b).Known<;>rfl
def lastTo (out:List fE)(t:Int):List fE:=match out.getLast? with
  | some x=>out.dropLast++ [fE.mk x.Twins x.From t]
  | none=>out
theorem sG (A:List fE)(x:fE)(t:Int):lastTo (A++ [x]) t=A++ [fE.mk x.Twins x.From t]:=by
  unfold lastTo; simp
theorem xY {out:List fE}(h:out≠ [])(hl:out.length≤1000000)(t:Int):(gG (at' out (IntKind.i64.wrap ((out.length:Int) - 1))) fun x=>gG (set' out (IntKind.i64.wrap ((out.length:Int) - 1)) (fE.mk x.Twins x.From t)) fun y=>some y)=some (lastTo out t):=by
  obtain ⟨A,x,rfl⟩: ∃A x,out=A++ [x]:=⟨out.dropLast,out.getLast h,(List.dropLast_concat_getLast h).symm⟩
  have e:IntKind.i64.wrap (((A++ [x]).length:Int) - 1)=(A.length:Int):=by
    have e0:((A++ [x]).length:Int)=(A.length:Int)+1:=by simp
    have e1:(A++ [x]).length=A.length+1:=by simp
    rw [e0,Go.OB.wrap_i64 (by omega) (by omega)]; omega
  rw [e,at_mid A x [] _ rfl,zN,set_at A x _ [] _ rfl,zN,sG]
theorem uX (out:List fE)(t:Int):(lastTo out t).length=out.length:=by
  unfold lastTo
  cases h:out.getLast? with
  | none=>rfl
  | some x=>
    have:out≠ []:=by intro e; subst e; simp at h
    have:=List.length_pos_iff.2 this
    simp; omega
def stC (k t:Int)(is:Bool)(out:List fE)(op:Bool):List fE:=if is=true then (if op=true then lastTo out t else out++ [fE.mk k t t]) else out
def aK (k a:Int)(f:Int→Bool)(out:List fE):Nat→List fE×Bool
  | 0=>(out,false)
  | i+1=>(stC k (a+(i:Int)) (f (a+(i:Int))) (aK k a f out i).1 (aK k a f out i).2,f (a+(i:Int)))
theorem stC_len (k t : Int) (is : Bool) (out : List fE) (op : Bool) : (stC k t is out op).length ≤ out.length + 1 := by
  unfold stC
  split
  · split
    · rw [uX]; omega
    · simp
  · omega
theorem qX (k a:Int)(f:Int→Bool)(out:List fE): ∀i,(aK k a f out i).1.length≤out.length+i
  | 0=>Nat.le_refl _
  | i+1=>by
    have h:=qX k a f out i
    have h1:=stC_len k (a+(i:Int)) (f (a+(i:Int))) (aK k a f out i).1 (aK k a f out i).2
    show (stC _ _ _ _ _).length≤_
    omega
theorem aAa (k a : Int) (f : Int → Bool) (out : List fE) : ∀ i, (aK k a f out i).2 = true → (aK k a f out i).1 ≠ []
  | 0, h => by cases h
  | i + 1, h => by
    change f (a + (i : Int)) = true at h
    show stC _ _ _ _ _ ≠ []
    unfold stC
    rw [if_pos h]
    split
    · rename_i c
      have h1 := aAa k a f out i c
      have := uX (aK k a f out i).1 (a + (i : Int))
      intro e
      rw [e] at this
      exact h1 (List.eq_nil_of_length_eq_zero this.symm)
    · simp
theorem ap24 {α:Type}{l:List α}{x:α}(h:l.length≤1000000):app' 24 l [x]=some (l++ [x]):=by
  unfold app'
  rw [if_pos ⟨by rw [Go.OB.maxLen_eq]; simp; omega,by simp; omega⟩]
def spn (a b:Int):Nat:=(b - a+1).toNat
theorem L2_ok {l : List gW} (h : tZ l = 0) {a b : Int} (hs : 0 ≤ a ∧ a ≤ b ∧ b ≤ 4194303 ∧ b - a + 1 ≤ 20000) {k : Int} {tw : Twins} {x y : gW} (hx : x ∈ l) (hy : y ∈ l) (hk : 0 ≤ tw.Most ∧ tw.Most ≤ 1125899906842624) {out : List fE} (ho : out.length ≤ 900000) :
    Fcg b k tw x y (out, false, a) = some (aK k a (cO x y tw.Most) out (spn a b)).1 := by
  obtain ⟨s1, s2, s3, s4⟩ := hs
  have hn : spn a b = (b - a + 1).toNat := rfl
  unfold Fcg
  rw [show (out, false, a) = ((aK k a (cO x y tw.Most) out 0).1, (aK k a (cO x y tw.Most) out 0).2, a + ((0 : Nat) : Int)) by show _ = (out, false, a + 0); rw [Int.add_zero]]
  refine nI (β := List fE) (γ := List fE × Bool × Int) (fun i => ((aK k a (cO x y tw.Most) out i).1, (aK k a (cO x y tw.Most) out i).2, a + (i : Int))) (List.replicate (spn a b) ()) (some (aK k a (cO x y tw.Most) out (spn a b)).1) (by simp; omega) (fun kk i z hz hi => ?_) (fun kk => ?_)
  · rw [List.length_replicate] at hi
    have hl := qX k a (cO x y tw.Most) out i
    have hne := aAa k a (cO x y tw.Most) out i
    simp only [yF]
    rw [decide_eq_true (by omega : a + (i : Int) ≤ b), yY, clash_eq h hx hy hk (by omega) (by omega), zN]
    show _ = kk (stC k (a + (i : Int)) (cO x y tw.Most (a + (i : Int))) (aK k a (cO x y tw.Most) out i).1 (aK k a (cO x y tw.Most) out i).2, cO x y tw.Most (a + (i : Int)), a + ((i + 1 : Nat) : Int))
    rw [wrap_i64 (n := a + (i : Int) + 1) (by omega) (by omega), show a + (i : Int) + 1 = a + ((i + 1 : Nat) : Int) by omega]
    generalize (aK k a (cO x y tw.Most) out i).1 = o at *
    generalize (aK k a (cO x y tw.Most) out i).2 = p at *
    generalize cO x y tw.Most (a + (i : Int)) = q
    unfold stC
    cases q
    · rfl
    · cases p
      · simp only [yY, xE, zN, if_true, Bool.false_eq_true, if_false]
        rw [ap24 (by omega), zN, zN]
      · simp only [yY, zN, if_true]
        rw [xY (hne rfl) (by omega), zN]
  · rw [List.length_replicate]
    simp only [yF]
    rw [decide_eq_false (by omega : ¬ a + ((spn a b : Nat) : Int) ≤ b), xE]
theorem rL3_ok {l : List gW} (h : tZ l = 0) {a b : Int} (hs : 0 ≤ a ∧ a ≤ b ∧ b ≤ 4194303 ∧ b - a + 1 ≤ 20000) {p1 : List Twins} {k : Int} {tw : Twins} (ht : at' p1 k = some tw) {x y : gW} (hx : x ∈ l) (hy : y ∈ l) (hk : 0 ≤ tw.Most ∧ tw.Most ≤ 1125899906842624) {out : List fE} (ho : out.length ≤ 900000) :
    Fb7 p1 b k x y (out, false, a) = some (aK k a (cO x y tw.Most) out (spn a b)).1 := by
  obtain ⟨s1, s2, s3, s4⟩ := hs
  have hn : spn a b = (b - a + 1).toNat := rfl
  have held : ∀ z ∈ l, ∀ n, 0 ≤ n → n ≤ 4194303 → Fat z.Series (64 * n + 63) z.Long = some (hld z.Series (64 * n + 63) z.Long) := fun z hz n _ _ => by
    obtain ⟨i, hi⟩ := List.getElem?_of_mem hz
    obtain ⟨q1, q2, q3⟩ := (aBt h).2 i z hi
    exact rHeld_eq _ _ _ q1 q2
  unfold Fb7
  rw [show (out, false, a) = ((aK k a (cO x y tw.Most) out 0).1, (aK k a (cO x y tw.Most) out 0).2, a + ((0 : Nat) : Int)) by show _ = (out, false, a + 0); rw [Int.add_zero]]
  refine nI (β := List fE) (γ := List fE × Bool × Int) (fun i => ((aK k a (cO x y tw.Most) out i).1, (aK k a (cO x y tw.Most) out i).2, a + (i : Int))) (List.replicate (spn a b) ()) (some (aK k a (cO x y tw.Most) out (spn a b)).1) (by simp; omega) (fun kk i z hz hi => ?_) (fun kk => ?_)
  · rw [List.length_replicate] at hi
    have hl := qX k a (cO x y tw.Most) out i
    have hne := aAa k a (cO x y tw.Most) out i
    have rc := rclash_eq h hx hy hk (n := a + (i : Int)) (by omega) (by omega)
    simp only [yF]
    rw [decide_eq_true (by omega : a + (i : Int) ≤ b), yY, aDs (by omega) (by omega), held x hx _ (by omega) (by omega), zN]
    rw [held y hy _ (by omega) (by omega), zN, ht]
    simp only [zN]
    have e1 : (gG (gQ (hld x.Series (64 * (a + (i : Int)) + 63) x.Long).2 (gQ (hld y.Series (64 * (a + (i : Int)) + 63) y.Long).2 (gG (Fai (hld x.Series (64 * (a + (i : Int)) + 63) x.Long).1.N x.Series.Den (hld y.Series (64 * (a + (i : Int)) + 63) y.Long).1.N y.Series.Den tw.Most) fun x4860 => some x4860) (some false)) (some false))) = gG (some (cO x y tw.Most (a + (i : Int)))) (β := List fE) := by
      rw [← rc]
      unfold inT
      dsimp only
      congr 1
      cases (hld x.Series (64 * (a + (i : Int)) + 63) x.Long).2 <;> cases (hld y.Series (64 * (a + (i : Int)) + 63) y.Long).2 <;> try rfl
      cases Fai (hld x.Series (64 * (a + (i : Int)) + 63) x.Long).1.N x.Series.Den (hld y.Series (64 * (a + (i : Int)) + 63) y.Long).1.N y.Series.Den tw.Most <;> rfl
    rw [e1, zN]
    show _ = kk (stC k (a + (i : Int)) (cO x y tw.Most (a + (i : Int))) (aK k a (cO x y tw.Most) out i).1 (aK k a (cO x y tw.Most) out i).2, cO x y tw.Most (a + (i : Int)), a + ((i + 1 : Nat) : Int))
    rw [wrap_i64 (n := a + (i : Int) + 1) (by omega) (by omega), show a + (i : Int) + 1 = a + ((i + 1 : Nat) : Int) by omega]
    generalize (aK k a (cO x y tw.Most) out i).1 = o at *
    generalize (aK k a (cO x y tw.Most) out i).2 = p at *
    generalize cO x y tw.Most (a + (i : Int)) = q
    unfold stC
    cases q
    · rfl
    · cases p
      · simp only [yY, zN, if_true, Bool.false_eq_true, if_false, Bool.not_false]
        rw [ap24 (by omega), zN, zN, xY (by simp) (by simp; omega), zN, sG]
      · simp only [yY, xE, zN, if_true, Bool.not_true]
        rw [xY (hne rfl) (by omega), zN]
  · rw [List.length_replicate]
    simp only [yF]
    rw [decide_eq_false (by omega : ¬ a + ((spn a b : Nat) : Int) ≤ b), xE]
end Go.Lf
