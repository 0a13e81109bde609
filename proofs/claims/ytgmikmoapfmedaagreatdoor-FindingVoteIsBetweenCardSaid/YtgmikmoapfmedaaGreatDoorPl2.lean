/- Loops that keep an invariant. -/
import Derived.Test.YtgmikmoapfmedaaGreatDoorPl
namespace Go.Lf
section
variable {α β γ σ:Type}
theorem wH {body:(γ→Option β)→γ→Option β}(enc:Nat→σ→γ)(l:List α)(I:Nat→σ→Prop)(R:β→Prop)
    (h: ∀k i s x,l[i]? =some x→i<l.length→I i s→ ∃s',I (i+1) s'∧body k (enc i s)=k (enc (i+1) s'))(hx: ∀k s,I l.length s→ ∃r,body k (enc l.length s)=some r∧R r):
    ∀(d i:Nat) (s:σ) (n:Nat),i+d=l.length→d<n→I i s→ ∃r,fE body n (enc i s)=some r∧R r
  | 0,i,s,n,hd,hn,hI=>by
    obtain ⟨m,rfl⟩: ∃m,n=m+1:=⟨n - 1,by omega⟩
    obtain rfl:i=l.length:=by omega
    rw [fE]; exact hx _ s hI
  | d+1,i,s,n,hd,hn,hI=>by
    obtain ⟨m,rfl⟩: ∃m,n=m+1:=⟨n - 1,by omega⟩
    have hi:i<l.length:=by omega
    obtain ⟨s',h1,h2⟩:=h (fE body m) i s l[i] (List.getElem?_eq_getElem hi) hi hI
    rw [fE,h2]
    exact wH enc l I R h hx d (i+1) s' m (by omega) (by omega) h1
end
end Go.Lf
