/- Laws that the claim stands on; no condition beyond those stated. -/
import Derived.Test.YtbjofgmdhbiekaaGreatDoorXVp
import Derived.Shelf.Strings.FuncGrows
import Derived.Laws.RangeString
namespace Go.Lf
open Go.RowKit Go.OB Go.Proofs
def aS (x:Nat):Bool:=(decide (97<=x)&&decide (x<=122))||(decide (48<=x)&&decide (x<=57))||decide (x=45)
def Fha (s:Str):Option Bool:=some (s.any λc=> !aS c.toNat)
theorem aUd (s:ByteArray) (pos:Nat) (h:128<=(s.get! (pos+0)).toNat):128<=(Utf8.decode s pos).1:=by
 unfold Utf8.decode;simp only [];rw [if_neg (by omega)];split;split;rename_i a;exact a;exact by decide
 split;split;rename_i a;simp only [ge_iff_le,Bool.and_eq_true,decide_eq_true_eq]at a;omega;exact by decide
 split;split;rename_i a;simp only [ge_iff_le,Bool.and_eq_true,decide_eq_true_eq]at a;omega;exact by decide
 exact by decide
theorem aXd {p:Nat->Bool} (a: ∀x,128<=x->p x=true) (s:Str): ∀(f pos:Nat),s.length<=pos+f->decide (0<=Lib.idxFuncFrom p true (bs s) f pos)=(s.drop pos).any λc=>p c.toNat
 |0,pos,h=>by
  rw [List.drop_eq_nil_of_le (by omega)];rfl
 |f+1,pos,h=>by
  have b:(bs s).size=s.length:=by simp [bs,ByteArray.size]
  unfold Lib.idxFuncFrom
  by_cases d:pos<s.length
  ·rw [if_pos (by rw [b];exact d),List.drop_eq_getElem_cons d,List.any_cons];have i:(bs s).get! (pos+0)=s[pos]:=by
    show s.toArray[pos]! =s[pos];rw [getElem!_pos s.toArray pos (by simpa using d)];simp
   by_cases j:s[pos].toNat<128
   ·have hd:Utf8.decode (bs s) pos=(s[pos].toNat,1):=by
     have e:pos<(bs s).size:=by rw [b];exact d
     have g:((bs s)[pos]'e).toNat=s[pos].toNat:=rfl;rw [decode_ascii (bs s) pos e (by rw [g];exact j)];exact congrArg (λn=>(n,1)) g
    rw [hd];simp only []
    cases hq:p s[pos].toNat with
    |true=>rw [if_pos rfl,Bool.true_or];exact dT (by omega)
    |false=>
     rw [if_neg (by decide),Bool.false_or];exact aXd a s f (pos+1) (by omega)
   ·have hd:128<=(Utf8.decode (bs s) pos).1:=aUd (bs s) pos (by rw [i];omega);rw [a _ hd,if_pos rfl,a _ (by omega),Bool.true_or];exact dT (by omega)
  ·rw [if_neg (by rw [b];exact d),List.drop_eq_nil_of_le (by omega)];rfl
end Go.Lf
