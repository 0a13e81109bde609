/- Tracks and flights: both programs tell them alike. -/
import Derived.Test.YtgmikmoapfmedaaGreatDoorVn2
namespace Go.Lf
theorem aEn {α:Type}(p:Nat→α→Bool): ∀(l:List α) (i:Nat),∃n,dU (fun i x=>if p i x=true then some (some (i:Int)) else none) (some (-1)) l i=some n∧decide (0≤n)=aS p l i
  | [],i=>⟨-1,rfl,rfl⟩
  | x :: l,i=>by
    rw [dU,aS]
    cases h:p i x with
    | true=>exact ⟨i,rfl,by simp⟩
    | false=>simpa using aEn p l (i+1)
theorem contT_eq (l : List gW) (c : gW) (hl : l.length ≤ 9223372036854775807) : Fbp l c = some (aS (fun _ y => decide (y.Name = c.Name)) l 0) := by
  obtain ⟨n, h1, h2⟩ := aEn (fun (_ : Nat) (y : gW) => decide (y.Name = c.Name)) l 0
  have e : Fbj l c = some n := by
    unfold Fbj
    simp only [yF, dY]
    unfold Fd5
    rw [← h1]
    refine dA l _ _ hl ?_ ?_
    · intro kk i x hx hi
      unfold Fcd
      simp only [yF, zN]
      rw [dN hi, yY, bV hx, zN, aI hi hl]
      cases decide (x.Name = c.Name) <;> rfl
    · intro kk; simp only [yF]; rw [dO]; rfl
  unfold Fbp
  rw [e]
  simp only [yF, zN, h2]
def aBg (l:List gW)(i:Nat)(x:gW):Int:=
  if !wU x.Name then 8 else if aS (fun _ y=>decide (y.Name=x.Name)) (l.take i) 0 then 5
  else if qO x.Series≠0 then qO x.Series else if !(decide (0≤x.Long) && decide (x.Long≤1099511627776)) then 9 else 0
def xZ (l:List gW):Option Int:=if decide (50<(l.length:Int)) then some 3 else dU (fun i x=>if aBg l i x=0 then none else some (some (aBg l i x))) (some 0) l 0
theorem vK {l:List gW}(h:okL jX l){i:Nat}{x:gW}(hx:l[i]? =some x):okS x.Name∧x.Series.Samples.length≤9223372036854775807:=by
  have:=h.2 x (List.mem_of_getElem? hx)
  exact ⟨this.1,this.2.1.2.1⟩
theorem uH (l : List gW) (h : okL jX l) : Fbk l = xZ l := by
  unfold Fbk xZ
  simp only [yF, dY, jG]
  congr 1
  unfold Fdw
  refine dA l _ _ h.1 ?_ ?_
  · intro kk i x hx hi
    obtain ⟨o1, o2⟩ := vK h hx
    simp only [yF]
    rw [dN hi, yY, bV hx, zN, isName_eq _ o1, zN, sub_nat l (by omega), aI hi h.1]
    simp only [zN, contT_eq (l.take i) x (by have := h.1; simp; omega), sCheck_eq _ o2, aDr]
    unfold aBg
    cases wU x.Name
    · rfl
    · cases aS (fun _ y => decide (y.Name = x.Name)) (l.take i) 0
      · simp only [Bool.not_true, xE, Bool.false_eq_true, if_false, jF, jG]
        by_cases hz : qO x.Series = 0
        · cases (decide (0 ≤ x.Long) && decide (x.Long ≤ 1099511627776)) <;> simp [hz]
        · simp [hz]
      · rfl
  · intro kk; simp only [yF]; rw [dO]; rfl
theorem aCt (l : List gW) (hl : l.length ≤ 9223372036854775807) {i : Nat} {x : gW} (hx : l[i]? = some x) (k : Unit → Option Int) : Fci l (i : Int) k 0 = if aS (fun _ y => decide (y.Name = x.Name)) (l.take i) 0 = true then some 5 else k () := by
  have hi := (List.getElem?_eq_some_iff.1 hx).1
  have ht : (l.take i).length = i := by rw [List.length_take]; exact Nat.min_eq_left (Nat.le_of_lt hi)
  have hm : (l.take i).length ≤ 9223372036854775807 := by rw [ht]; exact Nat.le_trans (Nat.le_of_lt hi) hl
  have e := jQ (fun _ y => decide (y.Name = x.Name)) (some 5) (k ()) (l.take i) 0
  rw [← e]
  unfold Fci
  refine dA (l.take i) _ (k ()) hm ?_ ?_
  · intro kk j y hy hj
    rw [ht] at hj
    have hy' : l[j]? = some y := by rw [List.getElem?_take, if_pos hj] at hy; exact hy
    simp only [yF]
    rw [dN hj, yY, bV hy', zN, bV hx, zN, aI (n := l.length) (Nat.lt_trans hj hi) hl]
    cases decide (y.Name = x.Name)
    · rfl
    · rfl
  · intro kk
    rw [ht]
    simp only [yF, dO, xE]
theorem sJ (l : List gW) (h : okL jX l) : Fa4 l = xZ l := by
  unfold Fa4 xZ
  simp only [yF, dY, jG]
  congr 1
  unfold Fdc
  refine dA l _ _ h.1 ?_ ?_
  · intro kk i x hx hi
    obtain ⟨o1, o2⟩ := vK h hx
    simp only [yF, dY]
    rw [dN hi, yY, bV hx, zN, aDl _ o1, zN, aCt l h.1 hx, aI hi h.1]
    simp only [zN, rCheck_eq _ o2, out6, aAn]
    unfold aBg
    cases wU x.Name
    · rfl
    · cases aS (fun _ y => decide (y.Name = x.Name)) (l.take i) 0
      · simp only [Bool.not_true, xE, Bool.false_eq_true, if_false, jF, jG]
        by_cases hz : qO x.Series = 0
        · cases (decide (0 ≤ x.Long) && decide (x.Long ≤ 1099511627776)) <;> simp [hz]
        · simp [hz]
      · rfl
  · intro kk; simp only [yF]; rw [dO]; rfl
theorem trkF_some (l:List gW): ∃r,xZ l=some r:=by
  unfold xZ
  split
  · exact ⟨_,rfl⟩
  · exact pX ⟨_,rfl⟩ (fun i x r h=>aCa h) _ _
end Go.Lf
