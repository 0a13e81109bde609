/- Plain functions: what the code computes. -/
import Derived.Test.YtbjhondbheijiaaDoorETy
import Derived.Test.YtbjhondbheijiaaDoorXEa

namespace Go.Lf
open Go.RowKit Go.OB
/-- math/bits.deBruijn32tab -/
def G_math_bits_deBruijn32tab : Arr 32 Int := ⟨[0, 1, 28, 2, 29, 14, 24, 3, 30, 22, 20, 15, 25, 17, 4, 8, 31, 27, 13, 23, 21, 19, 16, 7, 26, 12, 18, 6, 11, 5, 10, 9], rfl⟩
/-- math/bits.deBruijn64tab -/
def G_math_bits_deBruijn64tab : Arr 64 Int := ⟨[0, 1, 56, 2, 57, 49, 28, 3, 61, 58, 42, 50, 38, 29, 17, 4, 62, 47, 59, 36, 45, 43, 51, 22, 53, 39, 33, 30, 24, 18, 12, 5, 63, 55, 48, 27, 60, 41, 37, 16, 46, 35, 44, 21, 52, 32, 23, 11, 54, 26, 40, 15, 34, 20, 31, 10, 25, 14, 19, 9, 13, 8, 7, 6], rfl⟩
/-- internal/strconv.uint64pow10 -/
def G_internal_strconv_uint64pow10 : Arr 20 Int := ⟨[1, 10, 100, 1000, 10000, 100000, 1000000, 10000000, 100000000, 1000000000, 10000000000, 100000000000, 1000000000000, 10000000000000, 100000000000000, 1000000000000000, 10000000000000000, 100000000000000000, 1000000000000000000, 10000000000000000000], rfl⟩
/-- internal/strconv.log10Pow2 -/
def F_internal_strconv_log10Pow2 (p0 : Int) : Option Int :=
  letO (IntKind.i64.wrap (p0 * 78913)) fun x3 =>
  bindO (shr' .i64 x3 18) fun x5 =>
  some x5

/-- internal/strconv.bool2[int] -/
def F_internal_strconv_bool2_int_ (p0 : Bool) : Option Int :=
  iteB p0
  (some 1)
  (some 0)

/-- internal/strconv.numDigits -/
def F_internal_strconv_numDigits (p0 : Int) : Option Int :=
  bindO (X_Len64 p0) fun x5 =>
  bindO (F_internal_strconv_log10Pow2 x5) fun x10 =>
  bindO (at' G_internal_strconv_uint64pow10.l x10) fun x15 =>
  letO (decide (x15 ≤ p0)) fun x17 =>
  bindO (F_internal_strconv_bool2_int_ x17) fun x20 =>
  letO (IntKind.i64.wrap (x10 + x20)) fun x24 =>
  some x24
end Go.Lf
