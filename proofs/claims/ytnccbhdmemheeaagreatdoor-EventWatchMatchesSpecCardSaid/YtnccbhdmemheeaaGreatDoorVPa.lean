/- Laws that the claim stands on; no condition beyond those stated. -/
import Derived.Test.YtnccbhdmemheeaaGreatDoorDNa
namespace Go.Lf
open Go.RowKit Go.OB
def Asc (l:List nP):Prop:= ∀(i j:Nat) x y,l[i]? =some x->l[j]? =some y->i<j->x.At<y.At
theorem asc_of {s:Series} (h:aEe s=0):Asc s.Samples/\s.Samples.length<=20000/\ ∀(i:Nat) (x:nP),s.Samples[i]? =some x->0<=x.At/\x.At<=1099511627776:=by
 obtain⟨-,n,f⟩:=(ser_iff s).1 h;have step: ∀i x y,s.Samples[i]? =some x->s.Samples[i+1]? =some y->x.At<y.At:=by
  intro i x y a b;have q:=f (i+1) y b;unfold aUd at q;split at q
  ·exact absurd q (by decide)
  ·split at q
   ·exact absurd q (by decide)
   ·simp only [a]at q
    by_cases c:y.At<=x.At
    ·simp [c]at q
    ·omega
 refine⟨?_,n,λi x a=>?_⟩
 ·intro i j x y a b e;obtain⟨d,rfl⟩: ∃d,j=i+1+d:=⟨j-(i+1),by omega⟩;clear e
  induction d generalizing y with
  |zero=>exact step i x y a b
  |succ d o=>
   have p:=(gS.1 b).1;obtain⟨z,k⟩: ∃z,s.Samples[i+1+d]? =some z:=⟨_,gE (by omega)⟩;have:=o z k;have:=step (i+1+d) z y k b;omega
 ·have q:=f i x a;unfold aUd at q;split at q
  ·exact absurd q (by decide)
  ·rename_i c;simp only [Bool.or_eq_true,Bool.not_eq_true',Bool.and_eq_false_iff,decide_eq_false_iff_not,not_or,Decidable.not_not]at c
   by_cases l:0<=x.At
   ·by_cases c2:x.At<=1099511627776
    ·exact⟨l,c2⟩
    ·simp [c2]at c
   ·simp [l]at c
structure TK (l:List fF):Prop where
 n:l.length<=100000
 d: ∀(i j:Nat) (x y:fF),l[i]? =some x->l[j]? =some y->i<j->x.Name≠y.Name
 s: ∀(i:Nat) (x:fF),l[i]? =some x->aEe x.Series=0
theorem tk_of {l:List fF}(h:aNp l=0):TK l:=⟨by have:=((aQi l).1 h).1;omega,λi _ x _ a c b=>names_ne h a c b,λi x a=>((aVc l i x).1 (((aQi l).1 h).2 i x a)).2.2.1⟩
theorem good_trk {l:List fF}(h:TK l):l.length<=100000/\ ∀(i:Nat) (x:fF),l[i]? =some x->Asc x.Series.Samples/\x.Series.Samples.length<=20000/\ ∀(j:Nat) (y:nP),x.Series.Samples[j]? =some y->0<=y.At/\y.At<=1099511627776:=⟨h.n,λi x a=>asc_of (h.s i x a)⟩
theorem jE {a:Type}{l:List a}{i:Nat}{x:a}(b:l[i]? =some x):l.take (i+1)=l.take i++[x]:=by
 rw [List.take_add_one,b];rfl
end Go.Lf
