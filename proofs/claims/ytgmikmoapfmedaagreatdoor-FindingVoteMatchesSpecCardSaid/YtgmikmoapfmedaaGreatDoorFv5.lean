/- Vote: what is told of a track and a list ends. -/
import Derived.Test.YtgmikmoapfmedaaGreatDoorFv4
import Derived.Test.YtgmikmoapfmedaaGreatDoorFi6
namespace Go.Lf
open Go.OB
theorem ink_Text (p:gB)(s:Str){b:Nat}(hp:p.out.length≤b)(hs:s.length≤1000)(h:b≤100000000):Gr (Fbh p s) (b+1022):=by
  unfold Fbh
  simp only [yA]
  refine (jD (gB.mk p.out) _ hp (by omega)).bind fun q hq=>?_
  rw [app1 _ _ (by rw [jQ]; omega),zL]
  exact Gr.some (by rw [List.length_append,jQ]; omega)
theorem aDu (p:gB)(x:fA){b:Nat}(hp:p.out.length≤b)(h:b≤100000000):Gr (Fbo p x) (b+88):=by
  unfold Fbo
  simp only [yA]
  have q:=aCl (gB.mk p.out) [x.At,x.N,x.Mark] hp (by simp; omega)
  exact q.bind fun r hr=>Gr.some (by simp at hr; omega)
theorem aCw (p : gB) (x : Series) {b : Nat} (hp : p.out.length ≤ b) (h : b ≤ 10000000) (hl : x.Samples.length ≤ 100000) : Gr (Fa9 p x) (b + 44 + 88 * x.Samples.length) := by
  unfold Fa9
  simp only [yA]
  refine (jD (gB.mk p.out) _ hp (by omega)).bind fun q hq => ?_
  refine (jD (gB.mk q.out) _ hq (by omega)).bind fun q2 hq2 => ?_
  unfold Fc6
  refine qY (fun (i : Nat) (s : List Int) => ((i : Int), s)) x.Samples (fun i s => s.length ≤ b + 44 + 88 * i) (fun (r : gB) => r.out.length ≤ b + 44 + 88 * x.Samples.length) (by omega) ?_ ?_ _ (by simpa using hq2)
  · intro kk i s y hy hi hI
    obtain ⟨r, h1, h2⟩ := aDu (gB.mk s) y hI (by omega)
    refine ⟨r.out, by omega, ?_⟩
    simp only [yA]
    rw [dU hi, yR, dV hy, zL, h1, zL, bU hi (by omega)]
  · intro kk s hI
    simp only [yA]
    rw [dS, xH]
    exact ⟨_, rfl, hI⟩
theorem ink_One (x : gV) (hn : x.Name.length ≤ 1000) (hl : x.Series.Samples.length ≤ 100000) : Gr (Faz (gB.mk []) [x]) 20000000 := by
  unfold Faz
  simp only [yA]
  refine (jD (gB.mk []) _ (b := 0) (by simp) (by omega)).bind fun q hq => ?_
  unfold Fdw
  refine qY (fun (i : Nat) (s : List Int) => ((i : Int), s)) [x] (fun i s => s.length ≤ 22 + 10000000 * i) (fun (r : gB) => r.out.length ≤ 20000000) (by simp) ?_ ?_ _ (by simpa using hq)
  · intro kk i s y hy hi hI
    obtain rfl : x = y := by
      have := List.mem_of_getElem? hy
      simp only [List.mem_cons, List.not_mem_nil, or_false] at this
      exact this.symm
    have hi0 : i = 0 := by simp at hi; omega
    subst hi0
    obtain ⟨r1, h1, g1⟩ := ink_Text (gB.mk s) x.Name hI hn (by omega)
    obtain ⟨r2, h2, g2⟩ := aCw (gB.mk r1.out) x.Series g1 (by omega) hl
    obtain ⟨r3, h3, g3⟩ := jD (gB.mk r2.out) x.Long g2 (by omega)
    refine ⟨r3.out, by omega, ?_⟩
    simp only [yA]
    rw [dU hi, yR, dV hy, zL, h1, zL, zL, h2, zL, zL, h3, zL, bU hi (by simp)]
  · intro kk s hI
    simp only [yA]
    rw [dS, xH]
    exact ⟨_, rfl, by simp at hI ⊢; omega⟩
theorem aEu (p:gB)(e:Int){b:Nat}(hp:p.out.length≤b)(h:b≤100000000):Gr (Fau p e) (b+22):=by
  unfold Fau
  exact (jD p e hp (by omega)).bind fun q hq=>Gr.some hq
theorem wV (q:gB): ∃s,Fba (some q)=some s:=⟨_,rfl⟩
theorem aBa (x:gV)(e:Int)(hn:x.Name.length≤1000)(hl:x.Series.Samples.length≤100000): ∃s,Faw [x] e=some s:=by
  obtain ⟨q,h1,g1⟩:=ink_One x hn hl
  obtain ⟨r,h2,-⟩:=aEu (gB.mk q.out) e g1 (by omega)
  obtain ⟨s,h3⟩:=wV r
  refine ⟨s,?_⟩
  unfold Faw
  rw [h1,zL,h2,zL,h3,zL]
theorem ints_some (l:List Int)(e:Int)(hl:l.length≤1000): ∃s,Fao l e=some s:=by
  obtain ⟨q,h1,g1⟩:=aCl (gB.mk []) l (b:=0) (by simp) (by omega)
  obtain ⟨r,h2,-⟩:=aEu (gB.mk q.out) e g1 (by omega)
  obtain ⟨s,h3⟩:=wV r
  refine ⟨s,?_⟩
  unfold Fao
  rw [h1,zL,h2,zL,h3,zL]
theorem trk_nm {l:List gV}(h:jL l=0){x:Str}(c: ¬fO l x<0):x.length≤30:=by
  obtain ⟨-,m,e⟩:=bF c
  obtain ⟨i,hi⟩:=List.getElem?_of_mem m
  have q:=((aAv l).1 h).2 i _ hi
  obtain ⟨q1,-⟩:=(sW l i _).1 q
  rw [e] at q1
  unfold vW at q1
  simp only [Bool.and_eq_true,decide_eq_true_eq] at q1
  exact q1.1.1.1
theorem aCg (l : List gV) (ns : List Str) (most a b : Int) : (kL l ns most a b).1.Name.length ≤ 30 ∧ (kL l ns most a b).1.Series.Samples.length ≤ 20000 ∧ (kL l ns most a b).2.1.length ≤ 3 := by
  have f : ∀ e : Int, (vF e).1.Name.length ≤ 30 ∧ (vF e).1.Series.Samples.length ≤ 20000 ∧ (vF e).2.1.length ≤ 3 := fun e => ⟨by simp [vF], by simp [vF], by simp [vF]⟩
  by_cases t : jL l = 0
  rotate_left
  · unfold kL
    rw [if_pos t]; exact f _
  by_cases n3 : ns.length = 3
  rotate_left
  · rw [not3 t n3]; exact f _
  obtain ⟨x, y, z, rfl⟩ := three n3
  unfold kL
  rw [if_neg (by simp [t])]
  show (qI l x y z most a b).1.Name.length ≤ 30 ∧ (qI l x y z most a b).1.Series.Samples.length ≤ 20000 ∧ (qI l x y z most a b).2.1.length ≤ 3
  unfold qI
  by_cases v : vtE l x y z = 0
  rotate_left
  · rw [if_pos v]; exact f _
  rw [if_neg (by simpa using v)]
  split
  · exact f _
  by_cases s : qP a b = 0
  rotate_left
  · rw [if_pos s]; exact f _
  rw [if_neg (by simpa using s)]
  have hs := aDk s
  have hn : spn a b = (b - a + 1).toNat := rfl
  refine ⟨trk_nm t (aFf v).1, ?_, ?_⟩
  · show (pO _ _ _ most a (spn a b)).length ≤ 20000
    rw [tZ]; omega
  · show (outs _ _ _ most a (spn a b)).length ≤ 3
    rw [tJ]; exact Nat.le_refl 3
theorem law_Vote (l:List gV)(ns:List Str)(most a b:Int)(hl:okL jE l)(hn:okL okS ns)(_:i64 most)(_:i64 a)(_:i64 b):Fc0 l ns most a b=some true:=by
  have h1:=Vote_one l ns most a b hl hn.1
  have h2:=Vote_two l ns most a b hl hn.1
  obtain ⟨s1,s2,s3⟩:=aCg l ns most a b
  generalize kL l ns most a b=X at *
  obtain ⟨x,o,e⟩:=X
  obtain ⟨r1,q1⟩:=aBa x e (by simp only at s1; omega) (by simp only at s2; omega)
  obtain ⟨r2,q2⟩:=ints_some o 0 (by simp only at s3; omega)
  unfold Fc0
  rw [h1,zL]
  dsimp only
  rw [h2,zL]
  dsimp only
  simp only [yA]
  rw [q1]
  simp only [zL]
  rw [q2]
  simp only [zL,decide_true,yR,aDa]
end Go.Lf
