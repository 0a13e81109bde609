/- Loops that keep an invariant. -/
import Derived.Test.YthllgjnlmjpinaaGreatDoorPl
namespace Go.Lf
section
variable {α β γ σ:Type}
theorem aBu {body:(γ→Option β)→γ→Option β}(enc:Nat→σ→γ)(l:List α)(I:Nat→σ→Prop)(R:β→Prop)
    (h: ∀k i s x,l[i]? =some x→i<l.length→I i s→ ∃s',I (i+1) s'∧body k (enc i s)=k (enc (i+1) s'))(hx: ∀k s,I l.length s→ ∃r,body k (enc l.length s)=some r∧R r):
    ∀(d i:Nat) (s:σ) (n:Nat),i+d=l.length→d<n→I i s→ ∃r,fV body n (enc i s)=some r∧R r
  | 0,i,s,n,hd,hn,hI=>by
    obtain ⟨m,rfl⟩: ∃m,n=m+1:=⟨n - 1,by omega⟩
    obtain rfl:i=l.length:=by omega
    rw [fV]; exact hx _ s hI
  | d+1,i,s,n,hd,hn,hI=>by
    obtain ⟨m,rfl⟩: ∃m,n=m+1:=⟨n - 1,by omega⟩
    have hi:i<l.length:=by omega
    obtain ⟨s',h1,h2⟩:=h (fV body m) i s l[i] (List.getElem?_eq_getElem hi) hi hI
    rw [fV,h2]
    exact aBu enc l I R h hx d (i+1) s' m (by omega) (by omega) h1
theorem aJ {body:(γ→Option β)→γ→Option β}(enc:Nat→σ→γ)(l:List α)(I:Nat→σ→Prop)(R:β→Prop)(hl:l.length≤9223372036854775807)
    (h: ∀k i s x,l[i]? =some x→i<l.length→I i s→ ∃s',I (i+1) s'∧body k (enc i s)=k (enc (i+1) s'))(hx: ∀k s,I l.length s→ ∃r,body k (enc l.length s)=some r∧R r)(s:σ)(h0:I 0 s):
    ∃r,eF body (enc 0 s)=some r∧R r:=aBu enc l I R h hx l.length 0 s FU (by omega) (vU hl) h0
theorem aJb (A:List α)(x y:α)(B:List α)(n:Nat)(h:A.length=n):set' (A++x :: B) (n:Int) y=some (A++y :: B):=by
  subst h
  unfold set'
  rw [if_pos ⟨by omega,by simp; omega⟩]
  simp
theorem aIk (A:List α)(x:α)(B:List α)(n:Nat)(h:A.length=n):at' (A++x :: B) (n:Int)=some x:=by
  subst h
  exact xZ (by simp)
end
end Go.Lf
