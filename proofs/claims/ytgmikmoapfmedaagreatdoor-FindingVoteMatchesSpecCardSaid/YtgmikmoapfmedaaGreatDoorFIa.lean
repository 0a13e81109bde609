/- Walks: what each function computes, for every argument; no condition but those that stand in the statements. -/
import Derived.Test.YtgmikmoapfmedaaGreatDoorVNa
import Derived.Test.YtgmikmoapfmedaaGreatDoorPl2
import Derived.Lib.ItoaNum
import Derived.Test.YtgmikmoapfmedaaGreatDoorObA
import Derived.Lib.Mul64
import Derived.Laws.Bits64b
namespace Go.Lf
open Go.OB
theorem app1 (p q:List Int)(h:p.length+q.length≤140737488355328):app' 1 p q=some (p++q):=by
  unfold app'
  rw [if_pos ⟨by rw [Go.OB.maxLen_eq]; omega,by omega⟩]
theorem nU (p:List Int)(n:Int)(hn:0≤n∧n≤18446744073709551615)(h:p.length+20≤140737488355328): ∃q,Fbl p n 10=some q∧q.length≤p.length+20:=by
  unfold Fbl
  rw [if_pos ⟨rfl,hn.1,hn.2,h⟩]
  refine ⟨_,rfl,?_⟩
  rw [List.length_append,jQ,Lib.decDigits_length]
  have:=Lib.nDigits_le20 n.toNat (by omega)
  omega
theorem aEr (n:Int):0≤IntKind.u64.wrap n∧IntKind.u64.wrap n≤18446744073709551615:=by
  rw [IntKind.wrap_u64]; omega
theorem aAf (p : List Int) (n : Int) (h : p.length + 21 ≤ 140737488355328) : ∃ q, Fbu p n 10 = some q ∧ q.length ≤ p.length + 21 := by
  have e : ∃ q, Fbf p n 10 = some q ∧ q.length ≤ p.length + 21 := by
    unfold Fbf
    simp only [yA, nK]
    by_cases c : n < 0
    · have ha := app1 p [45] (by simp; omega)
      rw [if_pos c, ha, zL, zL]
      obtain ⟨q, h1, h2⟩ := nU (p ++ [45]) (IntKind.u64.wrap (-IntKind.u64.wrap n)) (aEr _) (by simp; omega)
      simp only []
      rw [h1, zL]
      exact ⟨q, rfl, by simp at h2; omega⟩
    · rw [if_neg c, zL]
      obtain ⟨q, h1, h2⟩ := nU p (IntKind.u64.wrap n) (aEr _) (by omega)
      simp only []
      rw [h1, zL]
      exact ⟨q, rfl, by omega⟩
  obtain ⟨q, h1, h2⟩ := e
  unfold Fbu
  rw [h1, zL]
  exact ⟨q, rfl, h2⟩
def Gr (r:Option gB)(n:Nat):Prop:= ∃q,r=some q∧q.out.length≤n
theorem Gr.bind {a:Option gB}{k:gB→Option gB}{n m:Nat}(h:Gr a n)(hk: ∀q,q.out.length≤n→Gr (k q) m):Gr (gG a k) m:=by
  obtain ⟨q,h1,h2⟩:=h
  rw [h1,zL]; exact hk q h2
theorem Gr.some {q:gB}{n:Nat}(h:q.out.length≤n):Gr (Option.some q) n:=⟨q,rfl,h⟩
theorem jD (p:gB)(n:Int){b:Nat}(hp:p.out.length≤b)(h:b≤100000000000000):Gr (Fab p n) (b+22):=by
  obtain ⟨q,h1,h2⟩:=aAf p.out n (by omega)
  unfold Fab
  rw [h1,zL]
  simp only [yA]
  rw [app1 q [32] (by simp; omega),zL]
  exact Gr.some (by simp; omega)
def inT (n:Int)(t:gV):fG:=fG.mk (hld t.Series (64 * n+63) t.Long).1.N (hld t.Series (64 * n+63) t.Long).2
theorem app16 (p:List fG)(x:fG)(h:p.length≤1000):app' 16 p [x]=some (p++ [x]):=by
  unfold app'
  rw [if_pos ⟨by rw [Go.OB.maxLen_eq]; simp; omega,by simp; omega⟩]
theorem wY {n:Int}(h0:0≤n)(h1:n≤4194303):IntKind.i64.wrap (IntKind.i64.wrap (IntKind.i64.wrap (64 * n)+64) - 1)=64 * n+63:=by
  rw [Go.OB.wrap_i64 (n:=64 * n) (by omega) (by omega),Go.OB.wrap_i64 (n:=64 * n+64) (by omega) (by omega),Go.OB.wrap_i64 (by omega) (by omega)]
  omega
theorem tH {l:List gV}(h:jL l=0):l.length≤50∧ ∀(i:Nat) (x:gV),l[i]? =some x→Asc x.Series.Samples∧x.Series.Samples.length≤20000∧ ∀(j:Nat) (y:fA),x.Series.Samples[j]? =some y→0≤y.At∧y.At≤1099511627776:=by
  obtain ⟨h1,h2⟩:=(aAv l).1 h
  exact ⟨h1,fun i x hx=>asc_of ((sW l i x).1 (h2 i x hx)).2.2.1⟩
theorem take_snoc {α:Type}{l:List α}{i:Nat}{x:α}(hx:l[i]? =some x):l.take (i+1)=l.take i++ [x]:=by
  rw [List.take_add_one,hx]; rfl
end Go.Lf
namespace Go.Lf
open Go.OB
theorem qV {α : Type} (p : α → Bool) : ∀ (l : List α) (i : Nat), ∃ n : Int, bI (fun i x => if p x = true then some (some (i : Int)) else none) (some (-1)) l i = some n ∧ ((n = -1 ∧ ∀ x ∈ l, p x = false) ∨ ∃ (j : Nat) (x : α), l[j]? = some x ∧ p x = true ∧ n = ((i + j : Nat) : Int))
  | [], i => ⟨-1, rfl, Or.inl ⟨rfl, by simp⟩⟩
  | x :: l, i => by
    rw [bI]
    cases h : p x with
    | true => exact ⟨i, rfl, Or.inr ⟨0, x, rfl, h, rfl⟩⟩
    | false =>
      obtain ⟨n, h1, h2⟩ := qV p l (i + 1)
      refine ⟨n, by simpa using h1, ?_⟩
      rcases h2 with ⟨rfl, h3⟩ | ⟨j, y, h3, h4, rfl⟩
      · refine Or.inl ⟨rfl, fun y hy => ?_⟩
        rcases List.mem_cons.1 hy with rfl | hy
        · exact h
        · exact h3 y hy
      · exact Or.inr ⟨j + 1, y, by simpa using h3, h4, by omega⟩
def fO (l:List gV)(s:Str):Int:=(bI (fun i x=>if decide (x.Name=s)=true then some (some (i:Int)) else none) (some (-1)) l 0).getD (-1)
theorem pJ (l:List gV)(s:Str):bI (fun i x=>if decide (x.Name=s)=true then some (some (i:Int)) else none) (some (-1)) l 0=some (fO l s)∧((fO l s= -1∧ ∀x ∈ l,x.Name≠s)∨ ∃(j:Nat) (x:gV),l[j]? =some x∧x.Name=s∧fO l s=(j:Int)):=by
  obtain ⟨n,h1,h2⟩:=qV (fun x:gV=>decide (x.Name=s)) l 0
  have e:fO l s=n:=by unfold fO; rw [h1]; rfl
  rw [e]
  refine ⟨h1,?_⟩
  rcases h2 with ⟨h3,h4⟩ | ⟨j,x,h3,h4,h5⟩
  · exact Or.inl ⟨h3,fun x hx=>by simpa using h4 x hx⟩
  · exact Or.inr ⟨j,x,h3,by simpa using h4,by omega⟩
theorem bC (l : List gV) (s : Str) (hl : l.length ≤ 9223372036854775807) : Faa l s = some (fO l s) := by
  have e : Fa0 l s = some (fO l s) := by
    unfold Fa0
    simp only [yA, dF]
    unfold Fef
    rw [← (pJ l s).1]
    refine dA l _ _ hl ?_ ?_
    · intro kk i x hx hi
      unfold Fb2
      simp only [yA, zL]
      rw [dU hi, yR, dV hx, zL, bU hi hl]
      cases decide (x.Name = s) <;> rfl
    · intro kk; simp only [yA]; rw [dS]; rfl
  unfold Faa
  rw [e]; rfl
theorem bQ (l : List gV) (s : Str) (hl : l.length ≤ 9223372036854775807) : Faf l s = some (fO l s) := by
  unfold Faf
  simp only [dF]
  unfold Fea
  rw [← (pJ l s).1]
  refine dA l _ _ hl ?_ ?_
  · intro kk i x hx hi
    simp only [yA, zL]
    rw [dU hi, yR, dV hx]
    simp only [zL]
    rw [bU hi hl]
    cases decide (x.Name = s) <;> rfl
  · intro kk; simp only [yA]; rw [dS]; rfl
theorem fwithin (a b c:Int):Fbp a b c=some (decide (b≤a) && decide (a≤c)):=by
  unfold Fbp
  simp only [yA]
  cases decide (b≤a)<;>rfl
theorem out7 (a b c:Int):Fbt a b c=some (decide (a<b) || decide (c<a)):=by
  unfold Fbt
  simp only [yA]
  cases decide (a<b)<;>rfl
def qP (a b:Int):Int:=if a<0∨b<a∨4194304≤b then 9 else if 20000<b - a+1 then 3 else 0
theorem aDk {a b : Int} (h : qP a b = 0) : 0 ≤ a ∧ a ≤ b ∧ b ≤ 4194303 ∧ b - a + 1 ≤ 20000 := by
  unfold qP at h
  split at h
  · exact absurd h (by decide)
  · split at h
    · exact absurd h (by decide)
    · omega
theorem wr_spn {a b:Int}(h:0≤a∧a≤b∧b≤4194303):IntKind.i64.wrap (IntKind.i64.wrap (b - a)+1)=b - a+1:=by
  rw [wrap_i64 (n:=b - a) (by omega) (by omega),wrap_i64 (by omega) (by omega)]
theorem aAn (a b : Int) : Fbi a b = some (qP a b) := by
  unfold Fbi qP
  simp only [yA]
  by_cases h1 : a < 0
  · simp [h1, gQ, gG]
  · by_cases h2 : b < a
    · simp [h1, h2, gQ, gG]
    · by_cases h3 : 4194304 ≤ b
      · simp [h1, h2, h3, gQ, gG]
      · rw [wr_spn (by omega)]
        simp only [h1, h2, h3, decide_false, gQ, gG, or_self, if_false, decide_eq_true_eq]
        by_cases h4 : 20000 < b - a + 1
        · simp [h4]
        · simp [h4]
theorem uK (a b : Int) : Fa3 a b 20000 = some (qP a b) := by
  unfold Fa3 qP
  simp only [yA]
  by_cases h1 : a < 0
  · simp [h1, gQ, gG]
  · by_cases h2 : b < a
    · simp [h1, h2, gQ, gG]
    · by_cases h3 : 4194304 ≤ b
      · have : 4194303 < b := by omega
        simp [h1, h2, h3, this, gQ, gG]
      · have : ¬ 4194303 < b := by omega
        rw [wr_spn (by omega)]
        simp only [h1, h2, h3, this, decide_false, gQ, gG, or_self, if_false, decide_eq_true_eq]
        by_cases h4 : 20000 < b - a + 1
        · simp [h4]
        · simp [h4]
end Go.Lf
namespace Go.Lf
theorem w64 {a:Int}(h0:0≤a)(h:a<18446744073709551616):IntKind.u64.wrap a=a:=by rw [IntKind.wrap_u64]; omega
end Go.Lf
