/- Tracks in a frame; what the printer writes ends. -/
import Derived.Test.YtgmikmoapfmedaaGreatDoorVn6
import Derived.Test.YtgmikmoapfmedaaGreatDoorPl2
import Derived.Lib.ItoaNum
namespace Go.Lf
open Go.OB
theorem app1 (p q:List Int)(h:p.length+q.length≤140737488355328):app' 1 p q=some (p++q):=by
  unfold app'
  rw [if_pos ⟨by rw [Go.OB.maxLen_eq]; omega,by omega⟩]
theorem nZ (p:List Int)(n:Int)(hn:0≤n∧n≤18446744073709551615)(h:p.length+20≤140737488355328): ∃q,Fbm p n 10=some q∧q.length≤p.length+20:=by
  unfold Fbm
  rw [if_pos ⟨rfl,hn.1,hn.2,h⟩]
  refine ⟨_,rfl,?_⟩
  rw [List.length_append,qK,Lib.decDigits_length]
  have:=Lib.nDigits_le20 n.toNat (by omega)
  omega
theorem aEj (n:Int):0≤IntKind.u64.wrap n∧IntKind.u64.wrap n≤18446744073709551615:=by
  rw [IntKind.wrap_u64]; omega
theorem wR (p : List Int) (n : Int) (h : p.length + 21 ≤ 140737488355328) : ∃ q, Fba p n 10 = some q ∧ q.length ≤ p.length + 21 := by
  have e : ∃ q, Fa8 p n 10 = some q ∧ q.length ≤ p.length + 21 := by
    unfold Fa8
    simp only [yF, jF]
    by_cases c : n < 0
    · have ha := app1 p [45] (by simp; omega)
      rw [if_pos c, ha, zN, zN]
      obtain ⟨q, h1, h2⟩ := nZ (p ++ [45]) (IntKind.u64.wrap (-IntKind.u64.wrap n)) (aEj _) (by simp; omega)
      simp only []
      rw [h1, zN]
      exact ⟨q, rfl, by simp at h2; omega⟩
    · rw [if_neg c, zN]
      obtain ⟨q, h1, h2⟩ := nZ p (IntKind.u64.wrap n) (aEj _) (by omega)
      simp only []
      rw [h1, zN]
      exact ⟨q, rfl, by omega⟩
  obtain ⟨q, h1, h2⟩ := e
  unfold Fba
  rw [h1, zN]
  exact ⟨q, rfl, h2⟩
def Gr (r:Option gK)(n:Nat):Prop:= ∃q,r=some q∧q.out.length≤n
theorem Gr.bind {a:Option gK}{k:gK→Option gK}{n m:Nat}(h:Gr a n)(hk: ∀q,q.out.length≤n→Gr (k q) m):Gr (gG a k) m:=by
  obtain ⟨q,h1,h2⟩:=h
  rw [h1,zN]; exact hk q h2
theorem Gr.some {q:gK}{n:Nat}(h:q.out.length≤n):Gr (Option.some q) n:=⟨q,rfl,h⟩
theorem aAo (p:gK)(n:Int){b:Nat}(hp:p.out.length≤b)(h:b≤100000000000000):Gr (Fap p n) (b+22):=by
  obtain ⟨q,h1,h2⟩:=wR p.out n (by omega)
  unfold Fap
  rw [h1,zN]
  simp only [yF]
  rw [app1 q [32] (by simp; omega),zN]
  exact Gr.some (by simp; omega)
def inT (n:Int)(t:gW):aH:=aH.mk (hld t.Series (64 * n+63) t.Long).1.N (hld t.Series (64 * n+63) t.Long).2
theorem app16 (p:List aH)(x:aH)(h:p.length≤1000):app' 16 p [x]=some (p++ [x]):=by
  unfold app'
  rw [if_pos ⟨by rw [Go.OB.maxLen_eq]; simp; omega,by simp; omega⟩]
theorem aDs {n:Int}(h0:0≤n)(h1:n≤4194303):IntKind.i64.wrap (IntKind.i64.wrap (IntKind.i64.wrap (64 * n)+64) - 1)=64 * n+63:=by
  rw [Go.OB.wrap_i64 (n:=64 * n) (by omega) (by omega),Go.OB.wrap_i64 (n:=64 * n+64) (by omega) (by omega),Go.OB.wrap_i64 (by omega) (by omega)]
  omega
theorem aBt {l:List gW}(h:tZ l=0):l.length≤50∧ ∀(i:Nat) (x:gW),l[i]? =some x→Asc x.Series.Samples∧x.Series.Samples.length≤20000∧ ∀(j:Nat) (y:fF),x.Series.Samples[j]? =some y→0≤y.At∧y.At≤1099511627776:=by
  obtain ⟨h1,h2⟩:=(aDx l).1 h
  exact ⟨h1,fun i x hx=>asc_of ((aBn l i x).1 (h2 i x hx)).2.2.1⟩
theorem take_snoc {α:Type}{l:List α}{i:Nat}{x:α}(hx:l[i]? =some x):l.take (i+1)=l.take i++ [x]:=by
  rw [List.take_add_one,hx]; rfl
end Go.Lf
