/- Walks: what each function computes, for every argument; no condition but those that stand in the statements. -/
import Derived.Test.YtgmikmoapfmedaaGreatDoorVNa
import Derived.Test.YtgmikmoapfmedaaGreatDoorPl2
import Derived.Lib.ItoaNum
import Derived.Test.YtgmikmoapfmedaaGreatDoorObA
import Derived.Lib.Mul64
import Derived.Laws.Bits64b
namespace Go.Lf
open Go.OB
def Gr (r:Option bF)(n:Nat):Prop:= ∃q,r=some q∧q.out.length≤n
theorem Gr.bind {a:Option bF}{k:bF→Option bF}{n m:Nat}(h:Gr a n)(hk: ∀q,q.out.length≤n→Gr (k q) m):Gr (gG a k) m:=by
  obtain ⟨q,h1,h2⟩:=h
  rw [h1,zM]; exact hk q h2
theorem Gr.some {q:bF}{n:Nat}(h:q.out.length≤n):Gr (Option.some q) n:=⟨q,rfl,h⟩
def inT (n:Int)(t:gV):fG:=fG.mk (hld t.Series (64 * n+63) t.Long).1.N (hld t.Series (64 * n+63) t.Long).2
theorem app16 (p:List fG)(x:fG)(h:p.length≤1000):app' 16 p [x]=some (p++ [x]):=by
  unfold app'
  rw [if_pos ⟨by rw [Go.OB.maxLen_eq]; simp; omega,by simp; omega⟩]
theorem wP {n:Int}(h0:0≤n)(h1:n≤4194303):IntKind.i64.wrap (IntKind.i64.wrap (IntKind.i64.wrap (64 * n)+64) - 1)=64 * n+63:=by
  rw [Go.OB.wrap_i64 (n:=64 * n) (by omega) (by omega),Go.OB.wrap_i64 (n:=64 * n+64) (by omega) (by omega),Go.OB.wrap_i64 (by omega) (by omega)]
  omega
theorem pU {l:List gV}(h:kE l=0):l.length≤50∧ ∀(i:Nat) (x:gV),l[i]? =some x→Asc x.Series.Samples∧x.Series.Samples.length≤20000∧ ∀(j:Nat) (y:fC),x.Series.Samples[j]? =some y→0≤y.At∧y.At≤1099511627776:=by
  obtain ⟨h1,h2⟩:=(aAi l).1 h
  exact ⟨h1,fun i x hx=>asc_of ((uS l i x).1 (h2 i x hx)).2.2.1⟩
theorem take_snoc {α:Type}{l:List α}{i:Nat}{x:α}(hx:l[i]? =some x):l.take (i+1)=l.take i++ [x]:=by
  rw [List.take_add_one,hx]; rfl
theorem aDi (l : List gV) (n : Int) (h : kE l = 0) (h0 : 0 ≤ n) (h1 : n ≤ 4194303) : Fau l n = some (l.map (inT n)) := by
  obtain ⟨hl, hg⟩ := pU h
  unfold Fau Fdu
  simp only [yA]
  rw [show (([] : List fG), (0 : Int)) = (fun (i : Nat) => ((l.take i).map (inT n), (i : Int))) 0 by simp]
  rw [aS (fun (i : Nat) => ((l.take i).map (inT n), (i : Int))) l (some (l.map (inT n))) (by omega) ?_ ?_]
  · rfl
  · intro k i x hx hi
    obtain ⟨g1, g2, g3⟩ := hg i x hx
    simp only [wP h0 h1]
    rw [cZ hi, yR, dZ hx, zM, zM, rHeld_eq _ _ _ g1 g2, zM]
    rw [app16 _ _ (by simp; omega), zM, aN hi (by omega), take_snoc hx, List.map_append]
    rfl
  · intro k
    rw [bC, yY, List.take_length]
theorem Inputs_eq (l : List gV) (n : Int) (h : okL kY l) : ∃ x, Fba l n = some x ∧ x.1.length ≤ 50 ∧ (kE l = 0 → 0 ≤ n → n ≤ 4194303 → x = (l.map (inT n), 0)) := by
  unfold Fba
  rw [rO l h, aAq, zM]
  simp only [yA, nI]
  by_cases c : kE l = 0
  · rw [if_neg (by simpa using c), out6, zM]
    by_cases c1 : 0 ≤ n
    · by_cases c2 : n ≤ 4194303
      · have hl := (pU c).1
        simp only [decide_eq_false (show ¬ n < 0 by omega), decide_eq_false (show ¬ 4194303 < n by omega), Bool.or_self, yY]
        rw [aDi l n c c1 c2, zM]
        exact ⟨_, rfl, by simpa using hl, fun _ _ _ => rfl⟩
      · simp only [decide_eq_true (show 4194303 < n by omega), Bool.or_true, yR]
        exact ⟨_, rfl, by simp, fun _ _ h' => absurd h' c2⟩
    · simp only [decide_eq_true (show n < 0 by omega), Bool.true_or, yR]
      exact ⟨_, rfl, by simp, fun _ h' _ => absurd h' c1⟩
  · rw [if_pos (by simpa using c)]
    exact ⟨_, rfl, by simp, fun h' _ _ => absurd h' c⟩
end Go.Lf
namespace Go.Lf
open Go.OB
theorem qX {α : Type} (p : α → Bool) : ∀ (l : List α) (i : Nat), ∃ n : Int, bT (fun i x => if p x = true then some (some (i : Int)) else none) (some (-1)) l i = some n ∧ ((n = -1 ∧ ∀ x ∈ l, p x = false) ∨ ∃ (j : Nat) (x : α), l[j]? = some x ∧ p x = true ∧ n = ((i + j : Nat) : Int))
  | [], i => ⟨-1, rfl, Or.inl ⟨rfl, by simp⟩⟩
  | x :: l, i => by
    rw [bT]
    cases h : p x with
    | true => exact ⟨i, rfl, Or.inr ⟨0, x, rfl, h, rfl⟩⟩
    | false =>
      obtain ⟨n, h1, h2⟩ := qX p l (i + 1)
      refine ⟨n, by simpa using h1, ?_⟩
      rcases h2 with ⟨rfl, h3⟩ | ⟨j, y, h3, h4, rfl⟩
      · refine Or.inl ⟨rfl, fun y hy => ?_⟩
        rcases List.mem_cons.1 hy with rfl | hy
        · exact h
        · exact h3 y hy
      · exact Or.inr ⟨j + 1, y, by simpa using h3, h4, by omega⟩
def dO (l:List gV)(s:Str):Int:=(bT (fun i x=>if decide (x.Name=s)=true then some (some (i:Int)) else none) (some (-1)) l 0).getD (-1)
theorem sU (l:List gV)(s:Str):bT (fun i x=>if decide (x.Name=s)=true then some (some (i:Int)) else none) (some (-1)) l 0=some (dO l s)∧((dO l s= -1∧ ∀x ∈ l,x.Name≠s)∨ ∃(j:Nat) (x:gV),l[j]? =some x∧x.Name=s∧dO l s=(j:Int)):=by
  obtain ⟨n,h1,h2⟩:=qX (fun x:gV=>decide (x.Name=s)) l 0
  have e:dO l s=n:=by unfold dO; rw [h1]; rfl
  rw [e]
  refine ⟨h1,?_⟩
  rcases h2 with ⟨h3,h4⟩ | ⟨j,x,h3,h4,h5⟩
  · exact Or.inl ⟨h3,fun x hx=>by simpa using h4 x hx⟩
  · exact Or.inr ⟨j,x,h3,by simpa using h4,by omega⟩
theorem dY (l : List gV) (s : Str) (hl : l.length ≤ 9223372036854775807) : Faa l s = some (dO l s) := by
  have e : Fbf l s = some (dO l s) := by
    unfold Fbf
    simp only [yA, dM]
    unfold Fcj
    rw [← (sU l s).1]
    refine dI l _ _ hl ?_ ?_
    · intro kk i x hx hi
      unfold Fb9
      simp only [yA, zM]
      rw [cZ hi, yR, dZ hx, zM, aN hi hl]
      cases decide (x.Name = s) <;> rfl
    · intro kk; simp only [yA]; rw [bC]; rfl
  unfold Faa
  rw [e]; rfl
theorem fwithin (a b c:Int):Fa5 a b c=some (decide (b≤a) && decide (a≤c)):=by
  unfold Fa5
  simp only [yA]
  cases decide (b≤a)<;>rfl
def sS (a b:Int):Int:=if a<0∨b<a∨4194304≤b then 9 else if 20000<b - a+1 then 3 else 0
theorem spn_ok {a b : Int} (h : sS a b = 0) : 0 ≤ a ∧ a ≤ b ∧ b ≤ 4194303 ∧ b - a + 1 ≤ 20000 := by
  unfold sS at h
  split at h
  · exact absurd h (by decide)
  · split at h
    · exact absurd h (by decide)
    · omega
theorem wr_spn {a b:Int}(h:0≤a∧a≤b∧b≤4194303):IntKind.i64.wrap (IntKind.i64.wrap (b - a)+1)=b - a+1:=by
  rw [wrap_i64 (n:=b - a) (by omega) (by omega),wrap_i64 (by omega) (by omega)]
theorem xX (a b : Int) : Fa6 a b = some (sS a b) := by
  unfold Fa6 sS
  simp only [yA]
  by_cases h1 : a < 0
  · simp [h1, gK, gG]
  · by_cases h2 : b < a
    · simp [h1, h2, gK, gG]
    · by_cases h3 : 4194304 ≤ b
      · simp [h1, h2, h3, gK, gG]
      · rw [wr_spn (by omega)]
        simp only [h1, h2, h3, decide_false, gK, gG, or_self, if_false, decide_eq_true_eq]
        by_cases h4 : 20000 < b - a + 1
        · simp [h4]
        · simp [h4]
end Go.Lf
namespace Go.Lf
theorem w64 {a:Int}(h0:0≤a)(h:a<18446744073709551616):IntKind.u64.wrap a=a:=by rw [IntKind.wrap_u64]; omega
end Go.Lf
