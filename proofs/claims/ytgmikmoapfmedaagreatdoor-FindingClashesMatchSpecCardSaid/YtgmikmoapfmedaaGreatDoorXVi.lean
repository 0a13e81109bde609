/- Contracts of slices.Sort of numbers, math/bits.Add64 and Sub64 at this program. -/
import Derived.Test.YtgmikmoapfmedaaGreatDoorXVc
import Derived.Test.YtgmikmoapfmedaaGreatDoorXVj
import Derived.Test.YtgmikmoapfmedaaGreatDoorShI
import Derived.Shelf.Spec.BitsCarry
namespace Go.Proofs.YtgmikmoapfmedaaGreatDoor.E
open Go.RowKit Go.OB Go.Lf Go.Sort
theorem do_ext {P:Program}{f:FuncId}{fn:Func}{e:Array Value→Sem Value}{v:Value}(hf:P.funcs[f]? =some fn)(hname:(fn.name== "runtime.NumGoroutine")=false)
    (hb:fn.body.isNone=true)(hn:Extern.findNext fn=none)(he:Extern.find fn=some e){args:Array Operand}{vs:List Value}{d:Option Nat}{at_:Array TypeId}{ty:TypeId}{pos:String}{af:Array Edge}{g:Option (Nat×Bool)}{ρ:Env}{w:World}
    (ha:args.toList.map (ev ρ)=vs)(hv:(e vs.toArray).run P w= .ok v w):Do P ⟨d,.call {callee:= .value (.func f),args:=args,argTypes:=at_},ty,pos,af,g⟩ ρ w v w:=by
  have h4:=run_callFunc_extern hf hname hb hn he vs.toArray w
  rw [hv] at h4
  have e:args.map (ev ρ)=vs.toArray:=by rw [← ha]; apply Array.ext'; simp
  unfold Do
  simp only [execOp,resolve,ev,Deferred.ofValue]
  rw [e]
  simp [invoke,h4,Result.andThen]
theorem Feh {p0 p1 p2 : Int} {r : Int × Int} (hF : Fad p0 p1 p2 = some r) {args : Array Operand} {d : Option Nat} {at_ : Array TypeId} {ty : TypeId} {pos : String} {af : Array Edge} {g : Option (Nat × Bool)} {ρ : Env} {w : World}
    (ha : args.toList.map (ev ρ) = [.int .u64 p0, .int .u64 p1, .int .u64 p2]) : Do Tryz.prog ⟨d, .call { callee := .value (.func 74), args := args, argTypes := at_ }, ty, pos, af, g⟩ ρ w (.tuple #[.int .u64 r.1, .int .u64 r.2]) w := by
  unfold Fad at hF
  split at hF
  · rename_i c
    have hr := Option.some.inj hF
    subst hr
    exact do_ext Tryz.func74 (by kernel_rfl) (by kernel_rfl) (by kernel_rfl) (e := add64Entry) (by kernel_rfl) ha (run_add64 p0 p1 p2 c.1 c.2.1 c.2.2.1 c.2.2.2 w)
  · cases hF
theorem Feg {p0 p1 p2 : Int} {r : Int × Int} (hF : Fab p0 p1 p2 = some r) {args : Array Operand} {d : Option Nat} {at_ : Array TypeId} {ty : TypeId} {pos : String} {af : Array Edge} {g : Option (Nat × Bool)} {ρ : Env} {w : World}
    (ha : args.toList.map (ev ρ) = [.int .u64 p0, .int .u64 p1, .int .u64 p2]) : Do Tryz.prog ⟨d, .call { callee := .value (.func 75), args := args, argTypes := at_ }, ty, pos, af, g⟩ ρ w (.tuple #[.int .u64 r.1, .int .u64 r.2]) w := by
  unfold Fab at hF
  split at hF
  · rename_i c
    have hr := Option.some.inj hF
    subst hr
    obtain ⟨c1, c2, c3, c4, c5⟩ := c
    obtain ⟨x, rfl⟩ := Int.eq_ofNat_of_zero_le c1
    obtain ⟨y, rfl⟩ := Int.eq_ofNat_of_zero_le c2
    obtain ⟨b, rfl⟩ := Int.eq_ofNat_of_zero_le c3
    have q := run_sub64 (P := Tryz.prog) x y b (by omega) w
    refine do_ext Tryz.func75 (by kernel_rfl) (by kernel_rfl) (by kernel_rfl) (e := sub64Entry) (by kernel_rfl) ha (q.trans ?_)
    have e1 : (((x + 18446744073709551616 - y - b) % 18446744073709551616 : Nat) : Int) = ((x : Int) + 18446744073709551616 - y - b) % 18446744073709551616 := by omega
    have e2 : ((if x < y + b then 1 else 0 : Nat) : Int) = if (x : Int) < (y : Int) + (b : Int) then 1 else 0 := by
      by_cases h : x < y + b
      · rw [if_pos h, if_pos (by omega)]; rfl
      · rw [if_neg h, if_neg (by omega)]; rfl
    rw [e1, e2]
  · cases hF
end Go.Proofs.YtgmikmoapfmedaaGreatDoor.E
