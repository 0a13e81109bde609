/- Walks: what each function computes, for every argument; no condition but those that stand in the statements. -/
import Derived.Test.YthllgjnlmjpinaaGreatDoorFLa
import Derived.Test.YthllgjnlmjpinaaGreatDoorPLb
namespace Go.Lf
def wr (n:Int):Bool:= !(decide (0≤n) && decide (n≤1000000000))
def shn (r:gV):Bool:= !r.Hidden
def many (l:List gV):Int:=match l.find? shn with
  | some y=>(y.Events.length:Int)
  | none=> -1
end Go.Lf
namespace Go.Lf
structure Gtb (l:List gV):Prop where
  few:l.length≤300
  key: ∀(i j:Nat) (x y:gV),l[i]? =some x→l[j]? =some y→i<j→x.Key≠y.Key
  hid: ∀x ∈ l,x.Hidden=true→x.Flights=0∧x.Events= []
  fl: ∀x ∈ l,0≤x.Flights∧x.Flights≤1000000000
  ev: ∀x ∈ l,∀n ∈ x.Events,0≤n∧n≤1000000000
  same: ∀x ∈ l,x.Hidden=false→(x.Events.length:Int)=many l
end Go.Lf
namespace Go.Lf
theorem app1 (p q:List Int)(h:p.length+q.length≤140737488355328):app' 1 p q=some (p++q):=by
 unfold app';rw [if_pos ⟨by rw [Go.OB.maxLen_eq]; omega,by omega⟩]
theorem appR {α:Type}{n:Nat}(p q:List α)(h:(p.length+q.length) * n≤140737488355328)(h1:p.length+q.length≤140737488355328):app' n p q=some (p++q):=by
 unfold app';rw [if_pos ⟨by rw [Go.OB.maxLen_eq]; omega,h⟩]
def zadd (a b:List Int):List Int:=List.zipWith (· + ·) a b
end Go.Lf
namespace Go.Lf
def stpR (s:Int×List Int×Bool)(x:gV):Int×List Int×Bool:=if x.Hidden=true then s else (s.1+x.Flights,if s.2.2=true then x.Events else zadd s.2.1 x.Events,false)
def sum_ (l:List gV)(i:Nat):Int×List Int×Bool:=(l.take i).foldl stpR (0,[],true)
structure Gs (l:List gV)(i:Nat)(s:Int×List Int×Bool):Prop where
  fl:0≤s.1∧s.1≤1000000000 * (i:Int)
  ev: ∀n ∈ s.2.1,0≤n∧n≤1000000000 * (i:Int)
  nil:s.2.2=true→s.2.1= []
  len:s.2.2=false→(s.2.1.length:Int)=many l
def tot (l:List gV):gV:=gV.mk [] false (sum_ l l.length).1 (sum_ l l.length).2.1
end Go.Lf
namespace Go.Lf
theorem aAl (p:List Int)(n:Int)(hn:0≤n∧n≤18446744073709551615)(h:p.length+20≤140737488355328): ∃q,Fcu p n 10=some q∧q.length≤p.length+20:=by
 unfold Fcu;rw [if_pos ⟨rfl,hn.1,hn.2,h⟩];refine ⟨_,rfl,?_⟩;rw [List.length_append,kX,Lib.decDigits_length];have:=Lib.nDigits_le20 n.toNat (by omega);omega
theorem aUr (n:Int):0≤IntKind.u64.wrap n∧IntKind.u64.wrap n≤18446744073709551615:=by
 rw [IntKind.wrap_u64]; omega
theorem aLb (p : List Int) (n : Int) (h : p.length + 21 ≤ 140737488355328) : ∃ q, Fdz p n 10 = some q ∧ q.length ≤ p.length + 21 := by
  have e : ∃ q, Fc4 p n 10 = some q ∧ q.length ≤ p.length + 21 := by
    unfold Fc4
    simp only [zM, wB]
    by_cases c : n < 0
    · have ha := app1 p [45] (by simp; omega)
      rw [if_pos c, ha, zI, zI]
      obtain ⟨q, h1, h2⟩ := aAl (p ++ [45]) (IntKind.u64.wrap (-IntKind.u64.wrap n)) (aUr _) (by simp; omega)
      simp only []
      rw [h1, zI]
      exact ⟨q, rfl, by simp at h2; omega⟩
    · rw [if_neg c, zI]
      obtain ⟨q, h1, h2⟩ := aAl p (IntKind.u64.wrap n) (aUr _) (by omega)
      simp only []
      rw [h1, zI]
      exact ⟨q, rfl, by omega⟩
  obtain ⟨q, h1, h2⟩ := e
  unfold Fdz
  rw [h1, zI]
  exact ⟨q, rfl, h2⟩
def Gr (r:Option gJ)(n:Nat):Prop:= ∃q,r=some q∧q.out.length≤n
theorem Gr.bind {a:Option gJ}{k:gJ→Option gJ}{n m:Nat}(h:Gr a n)(hk: ∀q,q.out.length≤n→Gr (k q) m):Gr (gG a k) m:=by
 obtain ⟨q,h1,h2⟩:=h;rw [h1,zI]; exact hk q h2
theorem Gr.some {q:gJ}{n:Nat}(h:q.out.length≤n):Gr (Option.some q) n:=⟨q,rfl,h⟩
theorem wR (p:gJ)(n:Int){b:Nat}(hp:p.out.length≤b)(h:b≤100000000000000):Gr (Faj p n) (b+22):=by
 obtain ⟨q,h1,h2⟩:=aLb p.out n (by omega);unfold Faj;rw [h1,zI];simp only [zM];rw [app1 q [32] (by simp; omega),zI];exact Gr.some (by simp; omega)
theorem aCe (p : gJ) (l : List Int) {b : Nat} (hp : p.out.length ≤ b) (h : b + 22 + 22 * l.length ≤ 100000000000000) : Gr (Fan p l) (b + 22 + 22 * l.length) := by
 unfold Fan;simp only [zM];refine (wR p _ hp (by omega)).bind fun q hq => ?_;unfold Fgt;refine dS (fun (i : Nat) (s : List Int) => ((i : Int), s)) l (fun i s => s.length ≤ b + 22 + 22 * i) (fun (r : gJ) => r.out.length ≤ b + 22 + 22 * l.length) (by omega) ?_ ?_ _ (by simpa using hq);intro kk i s x hx hi hI;obtain ⟨r, h1, h2⟩ := wR (gJ.mk s) x hI (by omega);refine ⟨r.out, by omega, ?_⟩;simp only [zM];rw [xE hi, yF, xQ hx, zI, h1, zI, eH hi (by omega)];intro kk s hI;simp only [zM];rw [xH, yE];exact ⟨_, rfl, hI⟩
theorem ink_Text (p:gJ)(s:Str){b:Nat}(hp:p.out.length≤b)(h:b+22+s.length≤100000000000000):Gr (Feb p s) (b+22+s.length):=by
 unfold Feb;simp only [zM];refine (wR p _ hp (by omega)).bind fun q hq=>?_;rw [app1 q.out (nums s) (by rw [kX]; omega),zI];exact Gr.some (by simp [kX]; omega)
theorem ink_Bool (p:gJ)(x:Bool){b:Nat}(hp:p.out.length≤b)(h:b≤100000000000000):Gr (Fdv p x) (b+5):=by
  unfold Fdv Fex Feh
  cases x with
  | true=>rw [yF,app1 p.out _ (by rw [kX]; simp only [List.length_cons,List.length_nil]; omega),zI,zI,zI]; exact Gr.some (by simp [kX]; omega)
  | false=>rw [yE,app1 p.out _ (by rw [kX]; simp only [List.length_cons,List.length_nil]; omega),zI,zI,zI]; exact Gr.some (by simp [kX]; omega)
end Go.Lf
namespace Go.Lf
open Go.OB
theorem kyO_len {f : Flight} (g : Good f) (b : Int) : (kyO f b).length ≤ 30 := by
  unfold kyO Fa2
  simp only [zM]
  by_cases c2 : b = 2
  · rw [decide_eq_true c2]
    rcases g.tail with h | h
    · show f.Tail.length ≤ 30; rw [h]; decide
    · exact qK h
  · by_cases c3 : b = 3
    · rw [decide_eq_false c2, decide_eq_true c3]; exact qK g.route
    · by_cases c4 : b = 4
      · rw [decide_eq_false c2, decide_eq_false c3, decide_eq_true c4]
        simp only [yE, yF]
        unfold Fea Fc2 Fdw
        have := g.day
        rw [if_pos ⟨rfl, by omega, by omega⟩]
        show (Lib.decDigits f.Day.toNat).length ≤ 30
        rw [Lib.decDigits_length]
        have := Lib.nDigits_le20 f.Day.toNat (by omega)
        omega
      · rw [decide_eq_false c2, decide_eq_false c3, decide_eq_false c4]; exact Nat.zero_le _
end Go.Lf
