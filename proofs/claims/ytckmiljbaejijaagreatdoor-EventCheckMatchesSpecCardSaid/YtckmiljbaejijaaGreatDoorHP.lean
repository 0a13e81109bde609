/- Plain functions: what the code computes. -/
import Derived.Test.YtckmiljbaejijaaGreatDoorHTy

namespace Go.Lf
open Go.RowKit Go.OB
def zN : Arr 20 Int := ⟨[1, 10, 100, 1000, 10000, 100000, 1000000, 10000000, 100000000, 1000000000, 10000000000, 100000000000, 1000000000000, 10000000000000, 100000000000000, 1000000000000000, 10000000000000000, 100000000000000000, 1000000000000000000, 10000000000000000000], rfl⟩
def zU : Arr 7 Str := ⟨[[], [60], [60, 61], [61], [33, 61], [62, 61], [62]], rfl⟩
def F_internal_strconv_log10Pow2 (p0 : Int) : Option Int :=
  letO (IntKind.i64.wrap (p0 * 78913)) fun x3 =>
  bindO (shr' .i64 x3 18) fun x5 =>
  some x5

def F_internal_strconv_bool2_int_ (p0 : Bool) : Option Int :=
  iteB p0
  (some 1)
  (some 0)

def F_internal_strconv_numDigits (p0 : Int) : Option Int :=
  bindO (X_Len64 p0) fun x5 =>
  bindO (F_internal_strconv_log10Pow2 x5) fun x10 =>
  bindO (at' zN.l x10) fun x15 =>
  letO (decide (x15 ≤ p0)) fun x17 =>
  bindO (F_internal_strconv_bool2_int_ x17) fun x20 =>
  letO (IntKind.i64.wrap (x10 + x20)) fun x24 =>
  some x24
end Go.Lf
