/- Where a track of a name lies; spans of frames. -/
import Derived.Test.YtgmikmoapfmedaaGreatDoorFi1
namespace Go.Lf
open Go.OB
theorem wF {α : Type} (p : α → Bool) : ∀ (l : List α) (i : Nat), ∃ n : Int, dU (fun i x => if p x = true then some (some (i : Int)) else none) (some (-1)) l i = some n ∧ ((n = -1 ∧ ∀ x ∈ l, p x = false) ∨ ∃ (j : Nat) (x : α), l[j]? = some x ∧ p x = true ∧ n = ((i + j : Nat) : Int))
  | [], i => ⟨-1, rfl, Or.inl ⟨rfl, by simp⟩⟩
  | x :: l, i => by
    rw [dU]
    cases h : p x with
    | true => exact ⟨i, rfl, Or.inr ⟨0, x, rfl, h, rfl⟩⟩
    | false =>
      obtain ⟨n, h1, h2⟩ := wF p l (i + 1)
      refine ⟨n, by simpa using h1, ?_⟩
      rcases h2 with ⟨rfl, h3⟩ | ⟨j, y, h3, h4, rfl⟩
      · refine Or.inl ⟨rfl, fun y hy => ?_⟩
        rcases List.mem_cons.1 hy with rfl | hy
        · exact h
        · exact h3 y hy
      · exact Or.inr ⟨j + 1, y, by simpa using h3, h4, by omega⟩
def aJ (l:List gW)(s:Str):Int:=(dU (fun i x=>if decide (x.Name=s)=true then some (some (i:Int)) else none) (some (-1)) l 0).getD (-1)
theorem pJ (l:List gW)(s:Str):dU (fun i x=>if decide (x.Name=s)=true then some (some (i:Int)) else none) (some (-1)) l 0=some (aJ l s)∧((aJ l s= -1∧ ∀x ∈ l,x.Name≠s)∨ ∃(j:Nat) (x:gW),l[j]? =some x∧x.Name=s∧aJ l s=(j:Int)):=by
  obtain ⟨n,h1,h2⟩:=wF (fun x:gW=>decide (x.Name=s)) l 0
  have e:aJ l s=n:=by unfold aJ; rw [h1]; rfl
  rw [e]
  refine ⟨h1,?_⟩
  rcases h2 with ⟨h3,h4⟩ | ⟨j,x,h3,h4,h5⟩
  · exact Or.inl ⟨h3,fun x hx=>by simpa using h4 x hx⟩
  · exact Or.inr ⟨j,x,h3,by simpa using h4,by omega⟩
theorem jT (l : List gW) (s : Str) (hl : l.length ≤ 9223372036854775807) : Fak l s = some (aJ l s) := by
  have e : Fbc l s = some (aJ l s) := by
    unfold Fbc
    simp only [yF, dY]
    unfold Fc8
    rw [← (pJ l s).1]
    refine dA l _ _ hl ?_ ?_
    · intro kk i x hx hi
      unfold Fcm
      simp only [yF, zN]
      rw [dN hi, yY, bV hx, zN, aI hi hl]
      cases decide (x.Name = s) <;> rfl
    · intro kk; simp only [yF]; rw [dO]; rfl
  unfold Fak
  rw [e]; rfl
theorem jY (l : List gW) (s : Str) (hl : l.length ≤ 9223372036854775807) : Fal l s = some (aJ l s) := by
  unfold Fal
  simp only [dY]
  unfold Fcq
  rw [← (pJ l s).1]
  refine dA l _ _ hl ?_ ?_
  · intro kk i x hx hi
    simp only [yF, zN]
    rw [dN hi, yY, bV hx]
    simp only [zN]
    rw [aI hi hl]
    cases decide (x.Name = s) <;> rfl
  · intro kk; simp only [yF]; rw [dO]; rfl
theorem fwithin (a b c:Int):Fa1 a b c=some (decide (b≤a) && decide (a≤c)):=by
  unfold Fa1
  simp only [yF]
  cases decide (b≤a)<;>rfl
theorem out7 (a b c:Int):Fbo a b c=some (decide (a<b) || decide (c<a)):=by
  unfold Fbo
  simp only [yF]
  cases decide (a<b)<;>rfl
def aDi (a b:Int):Int:=if a<0∨b<a∨4194304≤b then 9 else if 20000<b - a+1 then 3 else 0
theorem spn_ok {a b : Int} (h : aDi a b = 0) : 0 ≤ a ∧ a ≤ b ∧ b ≤ 4194303 ∧ b - a + 1 ≤ 20000 := by
  unfold aDi at h
  split at h
  · exact absurd h (by decide)
  · split at h
    · exact absurd h (by decide)
    · omega
theorem wr_spn {a b:Int}(h:0≤a∧a≤b∧b≤4194303):IntKind.i64.wrap (IntKind.i64.wrap (b - a)+1)=b - a+1:=by
  rw [wrap_i64 (n:=b - a) (by omega) (by omega),wrap_i64 (by omega) (by omega)]
theorem aAx (a b : Int) : Fbq a b = some (aDi a b) := by
  unfold Fbq aDi
  simp only [yF]
  by_cases h1 : a < 0
  · simp [h1, gQ, gG]
  · by_cases h2 : b < a
    · simp [h1, h2, gQ, gG]
    · by_cases h3 : 4194304 ≤ b
      · simp [h1, h2, h3, gQ, gG]
      · rw [wr_spn (by omega)]
        simp only [h1, h2, h3, decide_false, gQ, gG, or_self, if_false, decide_eq_true_eq]
        by_cases h4 : 20000 < b - a + 1
        · simp [h4]
        · simp [h4]
theorem tY (a b : Int) : Fbb a b 20000 = some (aDi a b) := by
  unfold Fbb aDi
  simp only [yF]
  by_cases h1 : a < 0
  · simp [h1, gQ, gG]
  · by_cases h2 : b < a
    · simp [h1, h2, gQ, gG]
    · by_cases h3 : 4194304 ≤ b
      · have : 4194303 < b := by omega
        simp [h1, h2, h3, this, gQ, gG]
      · have : ¬ 4194303 < b := by omega
        rw [wr_spn (by omega)]
        simp only [h1, h2, h3, this, decide_false, gQ, gG, or_self, if_false, decide_eq_true_eq]
        by_cases h4 : 20000 < b - a + 1
        · simp [h4]
        · simp [h4]
end Go.Lf
