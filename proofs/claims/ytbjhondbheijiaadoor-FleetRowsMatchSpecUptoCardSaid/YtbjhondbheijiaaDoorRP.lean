/- Plain functions: what the code computes. -/
import Derived.Test.YtbjhondbheijiaaDoorRTy
import Derived.Test.YtbjhondbheijiaaDoorXEc

namespace Go.Lf
open Go.RowKit Go.OB

/-- orangebox/fleet.CheckTable$1 -/
def F_fleet_CheckTable_1 (p0 : FleetRow) : Option Bool :=
  letO (!p0.Hidden) fun x8 =>
  some x8

def F_slices_IndexFunc___api_FleetRow_api_FleetRow__fleet_CheckTable_1_L1 (p0 : List FleetRow) (k132 : Unit → Option Int) (x135 : Int) : Int → Option Int := loopO fun k259 g255 =>
  letO (decide (g255 < x135)) fun x263 =>
  iteB x263
  (bindO (at' p0 g255) fun x295 =>
  bindO (F_fleet_CheckTable_1 x295) fun x311 =>
  iteB x311
  (some g255)
  (letO (IntKind.i64.wrap (g255 + 1)) fun x317 =>
  k259 x317))
  (k132 ())
/-- slices.IndexFunc[[]orangebox/api.FleetRow,orangebox/api.FleetRow]@orangebox/fleet.CheckTable$1 -/
def F_slices_IndexFunc___api_FleetRow_api_FleetRow__fleet_CheckTable_1 (p0 : List FleetRow) : Option Int :=
  joinO (fun _ =>
  some (-1)) fun k132 =>
  letO (p0.length : Int) fun x135 =>
  F_slices_IndexFunc___api_FleetRow_api_FleetRow__fleet_CheckTable_1_L1 p0 k132 x135 0

/-- orangebox/fleet.CheckTable$3 -/
def F_fleet_CheckTable_3 (p0 : FleetRow) (c0 : FleetRow) : Option Bool :=
  letO (decide ((p0.Key : Str) = c0.Key)) fun x12 =>
  some x12

def F_slices_IndexFunc___api_FleetRow_api_FleetRow__fleet_CheckTable_3_L1 (p0 : List FleetRow) (p1c0 : FleetRow) (k132 : Unit → Option Int) (x135 : Int) : Int → Option Int := loopO fun k255 g251 =>
  letO (decide (g251 < x135)) fun x259 =>
  iteB x259
  (bindO (at' p0 g251) fun x290 =>
  bindO (F_fleet_CheckTable_3 x290 p1c0) fun x305 =>
  iteB x305
  (some g251)
  (letO (IntKind.i64.wrap (g251 + 1)) fun x311 =>
  k255 x311))
  (k132 ())
/-- slices.IndexFunc[[]orangebox/api.FleetRow,orangebox/api.FleetRow]@orangebox/fleet.CheckTable$3 -/
def F_slices_IndexFunc___api_FleetRow_api_FleetRow__fleet_CheckTable_3 (p0 : List FleetRow) (p1c0 : FleetRow) : Option Int :=
  joinO (fun _ =>
  some (-1)) fun k132 =>
  letO (p0.length : Int) fun x135 =>
  F_slices_IndexFunc___api_FleetRow_api_FleetRow__fleet_CheckTable_3_L1 p0 p1c0 k132 x135 0

/-- slices.ContainsFunc[[]orangebox/api.FleetRow,orangebox/api.FleetRow]@orangebox/fleet.CheckTable$3 -/
def F_slices_ContainsFunc___api_FleetRow_api_FleetRow__fleet_CheckTable_3 (p0 : List FleetRow) (p1c0 : FleetRow) : Option Bool :=
  bindO (F_slices_IndexFunc___api_FleetRow_api_FleetRow__fleet_CheckTable_3 p0 p1c0) fun x9 =>
  letO (decide (0 ≤ x9)) fun x13 =>
  some x13

/-- orangebox/fleet.within -/
def F_fleet_within (p0 : Int) (p1 : Int) (p2 : Int) : Option Bool :=
  bindO (letO (decide (p1 ≤ p0)) fun x10 =>
  iteB x10
  (letO (decide (p0 ≤ p2)) fun x13 =>
  some x13)
  (some false)) fun g7 =>
  some g7

/-- orangebox/fleet.CheckTable$2 -/
def F_fleet_CheckTable_2 (p0 : Int) : Option Bool :=
  bindO (F_fleet_within p0 0 1000000000) fun x4 =>
  letO (!x4) fun x8 =>
  some x8

def F_slices_IndexFunc___int_int__fleet_CheckTable_2_L1 (p0 : List Int) (k120 : Unit → Option Int) (x123 : Int) : Int → Option Int := loopO fun k235 g231 =>
  letO (decide (g231 < x123)) fun x239 =>
  iteB x239
  (bindO (at' p0 g231) fun x268 =>
  bindO (F_fleet_CheckTable_2 x268) fun x281 =>
  iteB x281
  (some g231)
  (letO (IntKind.i64.wrap (g231 + 1)) fun x287 =>
  k235 x287))
  (k120 ())
/-- slices.IndexFunc[[]int,int]@orangebox/fleet.CheckTable$2 -/
def F_slices_IndexFunc___int_int__fleet_CheckTable_2 (p0 : List Int) : Option Int :=
  joinO (fun _ =>
  some (-1)) fun k120 =>
  letO (p0.length : Int) fun x123 =>
  F_slices_IndexFunc___int_int__fleet_CheckTable_2_L1 p0 k120 x123 0

/-- slices.ContainsFunc[[]int,int]@orangebox/fleet.CheckTable$2 -/
def F_slices_ContainsFunc___int_int__fleet_CheckTable_2 (p0 : List Int) : Option Bool :=
  bindO (F_slices_IndexFunc___int_int__fleet_CheckTable_2 p0) fun x6 =>
  letO (decide (0 ≤ x6)) fun x10 =>
  some x10

def F_fleet_CheckTable_L1 (p0 : List FleetRow) (x27 : Int) (k476 : Unit → Option Int) (x479 : Int) : Int → Option Int := loopO fun k919 g915 =>
  letO (decide (g915 < x479)) fun x923 =>
  iteB x923
  (bindO (at' p0 g915) fun x1033 =>
  bindO (sub' p0 0 g915) fun x1053 =>
  bindO (F_slices_ContainsFunc___api_FleetRow_api_FleetRow__fleet_CheckTable_3 x1053 x1033) fun x1058 =>
  iteB x1058
  (some 5)
  (bindO (iteB x1033.Hidden
  (letO (decide (x1033.Flights ≠ 0)) fun x1079 =>
  iteB x1079
  (some true)
  (letO (x1033.Events.length : Int) fun x1082 =>
  letO (decide (0 < x1082)) fun x1087 =>
  some x1087))
  (some false)) fun g1075 =>
  iteB g1075
  (some 2)
  (bindO (bindO (F_fleet_CheckTable_2 x1033.Flights) fun x1106 =>
  iteB x1106
  (some true)
  (bindO (F_slices_ContainsFunc___int_int__fleet_CheckTable_2 x1033.Events) fun x1112 =>
  some x1112)) fun g1102 =>
  iteB g1102
  (some 9)
  (bindO (letO (!x1033.Hidden) fun x1157 =>
  iteB x1157
  (letO (x1033.Events.length : Int) fun x1160 =>
  bindO (at' p0 x27) fun x1165 =>
  letO (x1165.Events.length : Int) fun x1180 =>
  letO (decide (x1160 ≠ x1180)) fun x1185 =>
  some x1185)
  (some false)) fun g1152 =>
  iteB g1152
  (some 2)
  (letO (IntKind.i64.wrap (g915 + 1)) fun x1191 =>
  k919 x1191)))))
  (k476 ())
/-- orangebox/fleet.CheckTable -/
def F_fleet_CheckTable (p0 : List FleetRow) : Option Int :=
  letO (p0.length : Int) fun x16 =>
  letO (decide (300 < x16)) fun x21 =>
  iteB x21
  (some 3)
  (bindO (F_slices_IndexFunc___api_FleetRow_api_FleetRow__fleet_CheckTable_1 p0) fun x27 =>
  joinO (fun _ =>
  some 0) fun k476 =>
  letO (p0.length : Int) fun x479 =>
  F_fleet_CheckTable_L1 p0 x27 k476 x479 0)

def F_fleet_Total_L2 (x1421 : FleetRow) (g1466 : Bool) (x1490 : Int) (x1494 : Int) : Int × (List Int) → Option (Int × (List Int) × Bool) := loopO fun k1684 ⟨g1679, g1680⟩ =>
  letO (decide (g1679 < x1494)) fun x1688 =>
  iteB x1688
  (bindO (at' x1421.Events g1679) fun x1735 =>
  bindO (at' g1680 g1679) fun x1747 =>
  letO (IntKind.i64.wrap (x1747 + x1735)) fun x1758 =>
  bindO (at' g1680 g1679) fun x1760 =>
  bindO (set' g1680 g1679 x1758) fun x1771 =>
  letO (IntKind.i64.wrap (g1679 + 1)) fun x1774 =>
  k1684 (x1774, x1771))
  (some (x1490, g1680, g1466))
def F_fleet_Total_L1 (p0 : List FleetRow) (x600 : Int) : Int × Int × (List Int) × Bool → Option (Int × (List Int) × Bool) := loopO fun k1155 ⟨g1143, g1144, g1146, g1148⟩ =>
  letO (decide (g1143 < x600)) fun x1159 =>
  iteB x1159
  (bindO (bindO (at' p0 g1143) fun x1421 =>
  iteB x1421.Hidden
  (some (g1144, g1146, g1148))
  (bindO (iteB g1148
  (letO (x1421.Events.length : Int) fun x1476 =>
  bindO (make' 8 x1476 (0 : Int)) fun x1481 =>
  some (x1481, false))
  (some (g1146, g1148))) fun ⟨g1464, g1466⟩ =>
  letO (IntKind.i64.wrap (g1144 + x1421.Flights)) fun x1490 =>
  letO (x1421.Events.length : Int) fun x1494 =>
  F_fleet_Total_L2 x1421 g1466 x1490 x1494 (0, g1464))) fun ⟨g1411, g1413, g1415⟩ =>
  letO (IntKind.i64.wrap (g1143 + 1)) fun x1776 =>
  k1155 (x1776, g1411, g1413, g1415))
  (some (g1144, g1146, g1148))
/-- orangebox/fleet.Total -/
def F_fleet_Total (p0 : List FleetRow) : Option (FleetRow × Int) :=
  bindO (F_fleet_CheckTable p0) fun x23 =>
  letO (decide (x23 ≠ 0)) fun x28 =>
  iteB x28
  (some (FleetRow.mk [] false 0 [], x23))
  (bindO (letO (p0.length : Int) fun x600 =>
  F_fleet_Total_L1 p0 x600 (0, 0, [], true)) fun ⟨g590, g592, g594⟩ =>
  some (FleetRow.mk [] false g590 g592, 0))

/-- orangebox/orangeboxref9.outside -/
def F_ref9_outside (p0 : Int) (p1 : Int) (p2 : Int) : Option Bool :=
  bindO (letO (decide (p0 < p1)) fun x10 =>
  iteB x10
  (some true)
  (letO (decide (p2 < p0)) fun x13 =>
  some x13)) fun g7 =>
  some g7

def F_ref9_CheckTable_L2 (p0 : List FleetRow) (g5062 : Int) (x5708 : FleetRow) (k5852 : Unit → Option Int) : Int → Option Int := loopO fun k5976 g5972 =>
  letO (decide (g5972 < g5062)) fun x5985 =>
  iteB x5985
  (bindO (at' p0 g5972) fun x6015 =>
  letO (decide ((x6015.Key : Str) = x5708.Key)) fun x6030 =>
  iteB x6030
  (some 5)
  (letO (IntKind.i64.wrap (g5972 + 1)) fun x6035 =>
  k5976 x6035))
  (k5852 ())
def F_ref9_CheckTable_L3 (x5708 : FleetRow) (k6231 : Unit → Option Int) : Int → Option Int := loopO fun k6363 g6359 =>
  letO (x5708.Events.length : Int) fun x6377 =>
  letO (decide (g6359 < x6377)) fun x6382 =>
  iteB x6382
  (bindO (at' x5708.Events g6359) fun x6407 =>
  bindO (F_ref9_outside x6407 0 1000000000) fun x6420 =>
  iteB x6420
  (some 9)
  (letO (IntKind.i64.wrap (g6359 + 1)) fun x6426 =>
  k6363 x6426))
  (k6231 ())
def F_ref9_CheckTable_L1 (p0 : List FleetRow) (k2546 : Unit → Option Int) : Int × Int → Option Int := loopO fun k5066 ⟨g5061, g5062⟩ =>
  letO (p0.length : Int) fun x5080 =>
  letO (decide (g5062 < x5080)) fun x5085 =>
  iteB x5085
  (joinO (fun g5703 =>
  letO (IntKind.i64.wrap (g5062 + 1)) fun x6464 =>
  k5066 (g5703, x6464)) fun k5705 =>
  bindO (at' p0 g5062) fun x5708 =>
  joinO (fun _ =>
  bindO (iteB x5708.Hidden
  (letO (decide (x5708.Flights ≠ 0)) fun x6069 =>
  iteB x6069
  (some true)
  (letO (x5708.Events.length : Int) fun x6072 =>
  letO (decide (0 < x6072)) fun x6077 =>
  some x6077))
  (some false)) fun g6065 =>
  iteB g6065
  (some 2)
  (bindO (F_ref9_outside x5708.Flights 0 1000000000) fun x6092 =>
  iteB x6092
  (some 9)
  (joinO (fun _ =>
  iteB x5708.Hidden
  (k5705 g5061)
  (bindO (letO (decide (g5061 < 0)) fun x6446 =>
  iteB x6446
  (letO (x5708.Events.length : Int) fun x6449 =>
  some x6449)
  (some g5061)) fun g6442 =>
  letO (x5708.Events.length : Int) fun x6455 =>
  letO (decide (x6455 ≠ g6442)) fun x6460 =>
  iteB x6460
  (some 2)
  (k5705 g6442))) fun k6231 =>
  F_ref9_CheckTable_L3 x5708 k6231 0))) fun k5852 =>
  F_ref9_CheckTable_L2 p0 g5062 x5708 k5852 0)
  (k2546 ())
/-- orangebox/orangeboxref9.CheckTable -/
def F_ref9_CheckTable (p0 : List FleetRow) : Option Int :=
  letO (p0.length : Int) fun x16 =>
  letO (decide (300 < x16)) fun x21 =>
  iteB x21
  (some 3)
  (joinO (fun _ =>
  some 0) fun k2546 =>
  F_ref9_CheckTable_L1 p0 k2546 ((-1), 0))

def F_ref9_Total_L2 (p0 : List FleetRow) (g2155 : Int) (x2736 : Int) : Int × (List Int) → Option (Int × (List Int)) := loopO fun k3174 ⟨g3168, g3169⟩ =>
  bindO (at' p0 g2155) fun x3203 =>
  letO (x3203.Events.length : Int) fun x3218 =>
  letO (decide (g3168 < x3218)) fun x3223 =>
  iteB x3223
  (bindO (letO (g3169.length : Int) fun x3331 =>
  letO (decide (g3168 = x3331)) fun x3336 =>
  iteB x3336
  (letO ([0] : List Int) fun _ =>
  bindO (app' 8 g3169 ([0] : List Int)) fun x3344 =>
  some x3344)
  (some g3169)) fun g3326 =>
  bindO (at' g3326 g3168) fun x3351 =>
  bindO (at' p0 g2155) fun x3362 =>
  bindO (at' x3362.Events g3168) fun x3377 =>
  letO (IntKind.i64.wrap (x3351 + x3377)) fun x3389 =>
  bindO (at' g3326 g3168) fun x3391 =>
  bindO (set' g3326 g3168 x3389) fun x3402 =>
  letO (IntKind.i64.wrap (g3168 + 1)) fun x3406 =>
  k3174 (x3406, x3402))
  (some (x2736, g3169))
def F_ref9_Total_L1 (p0 : List FleetRow) : Int × Int × (List Int) → Option (Int × (List Int)) := loopO fun k2164 ⟨g2155, g2156, g2158⟩ =>
  letO (p0.length : Int) fun x2178 =>
  letO (decide (g2155 < x2178)) fun x2183 =>
  iteB x2183
  (bindO (bindO (at' p0 g2155) fun x2702 =>
  iteB x2702.Hidden
  (some (g2156, g2158))
  (bindO (at' p0 g2155) fun x2721 =>
  letO (IntKind.i64.wrap (g2156 + x2721.Flights)) fun x2736 =>
  F_ref9_Total_L2 p0 g2155 x2736 (0, g2158))) fun ⟨g2677, g2678⟩ =>
  letO (IntKind.i64.wrap (g2155 + 1)) fun x3408 =>
  k2164 (x3408, g2677, g2678))
  (some (g2156, g2158))
/-- orangebox/orangeboxref9.Total -/
def F_ref9_Total (p0 : List FleetRow) : Option (FleetRow × Int) :=
  bindO (F_ref9_CheckTable p0) fun x23 =>
  letO (decide (x23 ≠ 0)) fun x28 =>
  iteB x28
  (some (FleetRow.mk [] false 0 [], x23))
  (bindO (F_ref9_Total_L1 p0 (0, 0, [])) fun ⟨g1097, g1099⟩ =>
  some (FleetRow.mk [] false g1097 g1099, 0))

/-- internal/strconv.AppendInt -/
def F_internal_strconv_AppendInt (p0 : List Int) (p1 : Int) (p2 : Int) : Option (List Int) :=
  letO (IntKind.u64.wrap p1) fun x7 =>
  bindO (letO (decide (p1 < 0)) fun x32 =>
  iteB x32
  (letO ([45] : List Int) fun _ =>
  bindO (app' 1 p0 ([45] : List Int)) fun x41 =>
  letO (IntKind.u64.wrap (-x7)) fun x45 =>
  some (x41, x45))
  (some (p0, x7))) fun ⟨g25, g27⟩ =>
  bindO (X_AppendUint g25 g27 p2) fun x48 =>
  some x48

/-- strconv.AppendInt -/
def F_strconv_AppendInt (p0 : List Int) (p1 : Int) (p2 : Int) : Option (List Int) :=
  bindO (F_internal_strconv_AppendInt p0 p1 p2) fun x7 =>
  some x7

/-- (*orangebox/orangeboxref0.Ink).Int -/
def F_ref0_Ink_Int (p0 : Orangeboxref0Ink) (p1 : Int) : Option Orangeboxref0Ink :=
  bindO (F_strconv_AppendInt p0.out p1 10) fun x8 =>
  letO ([32] : List Int) fun _ =>
  bindO (app' 1 x8 ([32] : List Int)) fun x20 =>
  some (Orangeboxref0Ink.mk x20)

/-- (*orangebox/orangeboxref0.Ink).Text -/
def F_ref0_Ink_Text (p0 : Orangeboxref0Ink) (p1 : Str) : Option Orangeboxref0Ink :=
  letO (p1.length : Int) fun x8 =>
  bindO (F_ref0_Ink_Int p0 x8) fun x10 =>
  bindO (app' 1 x10.out (nums p1)) fun x16 =>
  some (Orangeboxref0Ink.mk x16)

/-- internal/strconv.AppendBool -/
def F_internal_strconv_AppendBool (p0 : List Int) (p1 : Bool) : Option (List Int) :=
  iteB p1
  (bindO (app' 1 p0 (nums [116, 114, 117, 101])) fun x16 =>
  some x16)
  (bindO (app' 1 p0 (nums [102, 97, 108, 115, 101])) fun x21 =>
  some x21)

/-- strconv.AppendBool -/
def F_strconv_AppendBool (p0 : List Int) (p1 : Bool) : Option (List Int) :=
  bindO (F_internal_strconv_AppendBool p0 p1) fun x6 =>
  some x6

/-- (*orangebox/orangeboxref0.Ink).Bool -/
def F_ref0_Ink_Bool (p0 : Orangeboxref0Ink) (p1 : Bool) : Option Orangeboxref0Ink :=
  bindO (F_strconv_AppendBool p0.out p1) fun x6 =>
  some (Orangeboxref0Ink.mk x6)

def F_ref0_Ink_Ints_L1 (p1 : List Int) : Int × (List Int) → Option Orangeboxref0Ink := loopO fun k149 ⟨g142, g144⟩ =>
  letO (p1.length : Int) fun x163 =>
  letO (decide (g142 < x163)) fun x168 =>
  iteB x168
  (bindO (at' p1 g142) fun x190 =>
  bindO (F_ref0_Ink_Int (Orangeboxref0Ink.mk g144) x190) fun x202 =>
  letO (IntKind.i64.wrap (g142 + 1)) fun x208 =>
  k149 (x208, x202.out))
  (some (Orangeboxref0Ink.mk g144))
/-- (*orangebox/orangeboxref0.Ink).Ints -/
def F_ref0_Ink_Ints (p0 : Orangeboxref0Ink) (p1 : List Int) : Option Orangeboxref0Ink :=
  letO (p1.length : Int) fun x10 =>
  bindO (F_ref0_Ink_Int p0 x10) fun x15 =>
  F_ref0_Ink_Ints_L1 p1 (0, x15.out)

/-- (*orangebox/orangeboxref0.Ink).Row -/
def F_ref0_Ink_Row (p0 : Orangeboxref0Ink) (p1 : FleetRow) : Option Orangeboxref0Ink :=
  bindO (F_ref0_Ink_Text p0 p1.Key) fun x14 =>
  bindO (F_ref0_Ink_Bool x14 p1.Hidden) fun x21 =>
  bindO (F_ref0_Ink_Int x21 p1.Flights) fun x28 =>
  bindO (F_ref0_Ink_Ints x28 p1.Events) fun x34 =>
  some x34

def F_ref0_Ink_Rows_L1 (p1 : List FleetRow) : Int × (List Int) → Option Orangeboxref0Ink := loopO fun k161 ⟨g154, g156⟩ =>
  letO (p1.length : Int) fun x175 =>
  letO (decide (g154 < x175)) fun x180 =>
  iteB x180
  (bindO (at' p1 g154) fun x205 =>
  bindO (F_ref0_Ink_Row (Orangeboxref0Ink.mk g156) x205) fun x220 =>
  letO (IntKind.i64.wrap (g154 + 1)) fun x226 =>
  k161 (x226, x220.out))
  (some (Orangeboxref0Ink.mk g156))
/-- (*orangebox/orangeboxref0.Ink).Rows -/
def F_ref0_Ink_Rows (p0 : Orangeboxref0Ink) (p1 : List FleetRow) : Option Orangeboxref0Ink :=
  letO (p1.length : Int) fun x10 =>
  bindO (F_ref0_Ink_Int p0 x10) fun x15 =>
  F_ref0_Ink_Rows_L1 p1 (0, x15.out)

/-- (*orangebox/orangeboxref0.Ink).Errno -/
def F_ref0_Ink_Errno (p0 : Orangeboxref0Ink) (p1 : Int) : Option Orangeboxref0Ink :=
  bindO (F_ref0_Ink_Int p0 p1) fun x7 =>
  some x7

/-- (*orangebox/orangeboxref0.Ink).Told -/
def F_ref0_Ink_Told (p0 : Option Orangeboxref0Ink) : Option Str :=
  bindO p0 fun x5 =>
  letO (str' x5.out) fun x19 =>
  some x19

/-- orangebox/orangeboxlaw9.rows -/
def F_law9_rows (p0 : List FleetRow) (p1 : Int) : Option Str :=
  bindO (F_ref0_Ink_Rows (Orangeboxref0Ink.mk []) p0) fun x11 =>
  bindO (F_ref0_Ink_Errno x11 p1) fun x18 =>
  bindO (F_ref0_Ink_Told (some x18)) fun x27 =>
  some x27

/-- orangebox/fleet.Reveals$1 -/
def F_fleet_Reveals_1 (p0 : FleetRow) (c0 : FleetRow) : Option Bool :=
  letO (decide ((p0.Key : Str) = c0.Key)) fun x12 =>
  some x12

def F_slices_IndexFunc___api_FleetRow_api_FleetRow__fleet_Reveals_1_L1 (p0 : List FleetRow) (p1c0 : FleetRow) (k132 : Unit → Option Int) (x135 : Int) : Int → Option Int := loopO fun k255 g251 =>
  letO (decide (g251 < x135)) fun x259 =>
  iteB x259
  (bindO (at' p0 g251) fun x290 =>
  bindO (F_fleet_Reveals_1 x290 p1c0) fun x305 =>
  iteB x305
  (some g251)
  (letO (IntKind.i64.wrap (g251 + 1)) fun x311 =>
  k255 x311))
  (k132 ())
/-- slices.IndexFunc[[]orangebox/api.FleetRow,orangebox/api.FleetRow]@orangebox/fleet.Reveals$1 -/
def F_slices_IndexFunc___api_FleetRow_api_FleetRow__fleet_Reveals_1 (p0 : List FleetRow) (p1c0 : FleetRow) : Option Int :=
  joinO (fun _ =>
  some (-1)) fun k132 =>
  letO (p0.length : Int) fun x135 =>
  F_slices_IndexFunc___api_FleetRow_api_FleetRow__fleet_Reveals_1_L1 p0 p1c0 k132 x135 0

def F_fleet_Reveals_L1 (p0 : List FleetRow) (p1 : List FleetRow) (k148 : Unit → Option ((List Str) × Int)) (x156 : Int) : Int → Option ((List Str) × Int) := loopO fun k288 g284 =>
  letO (decide (g284 < x156)) fun x292 =>
  iteB x292
  (bindO (at' ([p0, p1] : List (List FleetRow)) g284) fun x325 =>
  bindO (F_fleet_CheckTable x325) fun x341 =>
  letO (decide (x341 ≠ 0)) fun x346 =>
  iteB x346
  (some ([], x341))
  (letO (IntKind.i64.wrap (g284 + 1)) fun x351 =>
  k288 x351))
  (k148 ())
def F_fleet_Reveals_L2 (p0 : List FleetRow) (p1 : List FleetRow) (p2 : Int) (x655 : Int) : (List Str) × Int → Option (List Str) := loopO fun k928 ⟨g921, g923⟩ =>
  letO (decide (g923 < x655)) fun x932 =>
  iteB x932
  (bindO (bindO (at' p1 g923) fun x1057 =>
  bindO (F_slices_IndexFunc___api_FleetRow_api_FleetRow__fleet_Reveals_1 p0 x1057) fun x1077 =>
  bindO (letO (decide (x1077 < 0)) fun x1127 =>
  iteB x1127
  (some true)
  (iteB x1057.Hidden
  (some true)
  (bindO (at' p0 x1077) fun x1131 =>
  some x1131.Hidden))) fun g1124 =>
  iteB g1124
  (some g921)
  (bindO (at' p0 x1077) fun x1150 =>
  letO (IntKind.i64.wrap (x1057.Flights - x1150.Flights)) fun x1165 =>
  letO (IntKind.i64.wrap (-x1165)) fun x1169 =>
  letO (max x1165 x1169 : Int) fun x1171 =>
  letO (IntKind.i64.wrap (p2 - 1)) fun x1173 =>
  bindO (F_fleet_within x1171 1 x1173) fun x1176 =>
  iteB x1176
  (letO ([x1057.Key] : List Str) fun _ =>
  bindO (app' 16 g921 ([x1057.Key] : List Str)) fun x1186 =>
  some x1186)
  (some g921))) fun g1052 =>
  letO (IntKind.i64.wrap (g923 + 1)) fun x1190 =>
  k928 (g1052, x1190))
  (some g921)
/-- orangebox/fleet.Reveals -/
def F_fleet_Reveals (p0 : List FleetRow) (p1 : List FleetRow) (p2 : Int) : Option ((List Str) × Int) :=
  joinO (fun _ =>
  bindO (F_fleet_within p2 1 1000) fun x366 =>
  letO (!x366) fun x370 =>
  iteB x370
  (some ([], 9))
  (bindO (letO (p1.length : Int) fun x655 =>
  F_fleet_Reveals_L2 p0 p1 p2 x655 ([], 0)) fun g650 =>
  some (g650, 0))) fun k148 =>
  letO ([p0, p1] : List (List FleetRow)) fun _ =>
  letO ((([p0, p1] : List (List FleetRow))).length : Int) fun x156 =>
  F_fleet_Reveals_L1 p0 p1 k148 x156 0

def F_ref9_Reveals_L2 (p0 : List FleetRow) (p1 : List FleetRow) (p2 : Int) (g1649 : Int) : (List Str) × Int → Option (List Str) := loopO fun k2400 ⟨g2394, g2396⟩ =>
  letO (p0.length : Int) fun x2414 =>
  letO (decide (g2396 < x2414)) fun x2419 =>
  iteB x2419
  (bindO (bindO (at' p1 g1649) fun x2579 =>
  bindO (at' p0 g2396) fun x2594 =>
  letO (IntKind.i64.wrap (x2579.Flights - x2594.Flights)) fun x2609 =>
  letO (IntKind.i64.wrap (-x2609)) fun x2613 =>
  letO (max x2609 x2613 : Int) fun x2615 =>
  bindO (bindO (at' p0 g2396) fun x2703 =>
  bindO (at' p1 g1649) fun x2718 =>
  letO (decide ((x2703.Key : Str) = x2718.Key)) fun x2733 =>
  iteB x2733
  (bindO (at' p0 g2396) fun x2736 =>
  letO (!x2736.Hidden) fun x2751 =>
  iteB x2751
  (bindO (at' p1 g1649) fun x2754 =>
  letO (!x2754.Hidden) fun x2769 =>
  iteB x2769
  (letO (decide (1 ≤ x2615)) fun x2772 =>
  iteB x2772
  (letO (decide (x2615 < p2)) fun x2775 =>
  some x2775)
  (some false))
  (some false))
  (some false))
  (some false)) fun g2698 =>
  iteB g2698
  (bindO (at' p1 g1649) fun x2783 =>
  letO ([x2783.Key] : List Str) fun _ =>
  bindO (app' 16 g2394 ([x2783.Key] : List Str)) fun x2803 =>
  some x2803)
  (some g2394)) fun g2572 =>
  letO (IntKind.i64.wrap (g2396 + 1)) fun x2807 =>
  k2400 (g2572, x2807))
  (some g2394)
def F_ref9_Reveals_L1 (p0 : List FleetRow) (p1 : List FleetRow) (p2 : Int) : (List Str) × Int → Option (List Str) := loopO fun k1654 ⟨g1647, g1649⟩ =>
  letO (p1.length : Int) fun x1668 =>
  letO (decide (g1649 < x1668)) fun x1673 =>
  iteB x1673
  (bindO (F_ref9_Reveals_L2 p0 p1 p2 g1649 (g1647, 0)) fun g2036 =>
  letO (IntKind.i64.wrap (g1649 + 1)) fun x2809 =>
  k1654 (g2036, x2809))
  (some g1647)
/-- orangebox/orangeboxref9.Reveals -/
def F_ref9_Reveals (p0 : List FleetRow) (p1 : List FleetRow) (p2 : Int) : Option ((List Str) × Int) :=
  bindO (F_ref9_CheckTable p0) fun x21 =>
  letO (decide (x21 ≠ 0)) fun x26 =>
  iteB x26
  (some ([], x21))
  (bindO (F_ref9_CheckTable p1) fun x45 =>
  letO (decide (x45 ≠ 0)) fun x50 =>
  iteB x50
  (some ([], x45))
  (bindO (F_ref9_outside p2 1 1000) fun x66 =>
  iteB x66
  (some ([], 9))
  (bindO (F_ref9_Reveals_L1 p0 p1 p2 ([], 0)) fun g862 =>
  some (g862, 0))))

def F_ref0_Ink_Texts_L1 (p1 : List Str) : Int × (List Int) → Option Orangeboxref0Ink := loopO fun k149 ⟨g142, g144⟩ =>
  letO (p1.length : Int) fun x163 =>
  letO (decide (g142 < x163)) fun x168 =>
  iteB x168
  (bindO (at' p1 g142) fun x190 =>
  bindO (F_ref0_Ink_Text (Orangeboxref0Ink.mk g144) x190) fun x202 =>
  letO (IntKind.i64.wrap (g142 + 1)) fun x208 =>
  k149 (x208, x202.out))
  (some (Orangeboxref0Ink.mk g144))
/-- (*orangebox/orangeboxref0.Ink).Texts -/
def F_ref0_Ink_Texts (p0 : Orangeboxref0Ink) (p1 : List Str) : Option Orangeboxref0Ink :=
  letO (p1.length : Int) fun x10 =>
  bindO (F_ref0_Ink_Int p0 x10) fun x15 =>
  F_ref0_Ink_Texts_L1 p1 (0, x15.out)

def F_fleet_printable_L1 (p0 : Str) (k102 : Unit → Option Bool) (x105 : Int) : Int → Option Bool := loopO fun k190 g186 =>
  letO (decide (g186 < x105)) fun x194 =>
  iteB x194
  (bindO (bindO (byte' p0 g186) fun x228 =>
  letO (decide (x228 < 33)) fun x230 =>
  iteB x230
  (some true)
  (bindO (byte' p0 g186) fun x233 =>
  letO (decide (126 < x233)) fun x235 =>
  some x235)) fun g225 =>
  iteB g225
  (some false)
  (letO (IntKind.i64.wrap (g186 + 1)) fun x239 =>
  k190 x239))
  (k102 ())
/-- orangebox/fleet.printable -/
def F_fleet_printable (p0 : Str) : Option Bool :=
  letO (decide ((p0 : Str) = [45])) fun x9 =>
  iteB x9
  (some false)
  (joinO (fun _ =>
  some true) fun k102 =>
  letO (p0.length : Int) fun x105 =>
  F_fleet_printable_L1 p0 k102 x105 0)

/-- internal/strconv.Itoa -/
def F_internal_strconv_Itoa (p0 : Int) : Option Str :=
  bindO (X_FormatInt p0 10) fun x5 =>
  some x5

/-- strconv.Itoa -/
def F_strconv_Itoa (p0 : Int) : Option Str :=
  bindO (F_internal_strconv_Itoa p0) fun x5 =>
  some x5

/-- (*strings.Builder).WriteString -/
def F_strings_Builder_WriteString (p0 : List Int) (p1 : Str) : Option (Int × Unit × (List Int)) :=
  bindO (X_bcheck p0) fun x11 =>
  bindO (app' 1 x11 (nums p1)) fun x20 =>
  letO (p1.length : Int) fun x26 =>
  some (x26, (), x20)

/-- (*strings.Builder).Len -/
def F_strings_Builder_Len (p0 : List Int) : Option (Int × (List Int)) :=
  letO (p0.length : Int) fun x11 =>
  some (x11, p0)

def F_fleet_Print_L2 (x2906 : List Int) (x2910 : Int) : (List Str) × Int → Option (List Str) := loopO fun k3046 ⟨g3040, g3042⟩ =>
  letO (decide (g3042 < x2910)) fun x3050 =>
  iteB x3050
  (bindO (at' x2906 g3042) fun x3083 =>
  bindO (F_strconv_Itoa x3083) fun x3095 =>
  letO ([x3095] : List Str) fun _ =>
  bindO (app' 16 g3040 ([x3095] : List Str)) fun x3104 =>
  letO (IntKind.i64.wrap (g3042 + 1)) fun x3108 =>
  k3046 (x3104, x3108))
  (some g3040)
def F_fleet_Print_L1 (p0 : List FleetRow) (k1206 : (List Int) → Option (Str × Int)) (x1209 : Int) : Int × (List Int) → Option (Str × Int) := loopO fun k2379 ⟨g2368, g2372⟩ =>
  letO (decide (g2368 < x1209)) fun x2383 =>
  iteB x2383
  (joinO (fun g2637 =>
  letO (IntKind.i64.wrap (g2368 + 1)) fun x3127 =>
  k2379 (x3127, g2637)) fun k2640 =>
  bindO (at' p0 g2368) fun x2643 =>
  bindO (F_fleet_printable x2643.Key) fun x2675 =>
  letO (!x2675) fun x2679 =>
  iteB x2679
  (some ([], 2))
  (letO ([[114, 111, 119], x2643.Key] : List Str) fun _ =>
  bindO (letO (decide ((x2643.Key : Str) = [])) fun x2711 =>
  iteB x2711
  (bindO (at' ([[114, 111, 119], x2643.Key] : List Str) 1) fun x2714 =>
  bindO (set' ([[114, 111, 119], x2643.Key] : List Str) 1 [45]) fun x2725 =>
  some x2725)
  (some ([[114, 111, 119], x2643.Key] : List Str))) fun g2707 =>
  bindO (iteB x2643.Hidden
  (letO ([[104, 105, 100, 100, 101, 110]] : List Str) fun _ =>
  bindO (app' 16 g2707 ([[104, 105, 100, 100, 101, 110]] : List Str)) fun x2896 =>
  some x2896)
  (letO ([x2643.Flights] : List Int) fun _ =>
  bindO (app' 8 ([x2643.Flights] : List Int) x2643.Events) fun x2906 =>
  letO (x2906.length : Int) fun x2910 =>
  F_fleet_Print_L2 x2906 x2910 (g2707, 0))) fun g2885 =>
  bindO (X_Join g2885 [32]) fun x3111 =>
  bindO (cat' x3111 [10]) fun x3115 =>
  bindO (F_strings_Builder_WriteString g2372 x3115) fun ⟨x3117, x3118, x3119⟩ =>
  k2640 x3119))
  (k1206 g2372)
/-- orangebox/fleet.Print -/
def F_fleet_Print (p0 : List FleetRow) : Option (Str × Int) :=
  bindO (F_fleet_CheckTable p0) fun x19 =>
  letO (decide (x19 ≠ 0)) fun x24 =>
  iteB x24
  (some ([], x19))
  (joinO (fun g1203 =>
  bindO (F_strings_Builder_Len g1203) fun ⟨x3145, x3146⟩ =>
  letO (decide (1000000 < x3145)) fun x3154 =>
  iteB x3154
  (some ([], 3))
  (bindO (X_bstring x3146) fun x3159 =>
  some (x3159, 0))) fun k1206 =>
  letO (p0.length : Int) fun x1209 =>
  F_fleet_Print_L1 p0 k1206 x1209 (0, []))

def F_ref9_Print_L2 (x2111 : FleetRow) (k2223 : Unit → Option (Str × Int)) : Int → Option (Str × Int) := loopO fun k2319 g2315 =>
  letO (x2111.Key.length : Int) fun x2330 =>
  letO (decide (g2315 < x2330)) fun x2332 =>
  iteB x2332
  (bindO (bindO (byte' x2111.Key g2315) fun x2362 =>
  letO (decide (x2362 < 33)) fun x2364 =>
  iteB x2364
  (some true)
  (bindO (byte' x2111.Key g2315) fun x2367 =>
  letO (decide (126 < x2367)) fun x2369 =>
  some x2369)) fun g2359 =>
  iteB g2359
  (some ([], 2))
  (letO (IntKind.i64.wrap (g2315 + 1)) fun x2373 =>
  k2319 x2373))
  (k2223 ())
def F_ref9_Print_L1 (p0 : List FleetRow) (k949 : Unit → Option (Str × Int)) : Int → Option (Str × Int) := loopO fun k1869 g1865 =>
  letO (p0.length : Int) fun x1883 =>
  letO (decide (g1865 < x1883)) fun x1888 =>
  iteB x1888
  (joinO (fun _ =>
  letO (IntKind.i64.wrap (g1865 + 1)) fun x2380 =>
  k1869 x2380) fun k2108 =>
  bindO (at' p0 g1865) fun x2111 =>
  joinO (fun _ =>
  letO (decide ((x2111.Key : Str) = [45])) fun x2376 =>
  iteB x2376
  (some ([], 2))
  (k2108 ())) fun k2223 =>
  F_ref9_Print_L2 x2111 k2223 0)
  (k949 ())
def F_ref9_Print_L4 (p0 : List FleetRow) (g3940 : Int) : (List Int) × Int → Option (List Int) := loopO fun k4994 ⟨g4988, g4990⟩ =>
  bindO (at' p0 g3940) fun x5023 =>
  letO (x5023.Events.length : Int) fun x5038 =>
  letO (decide (g4990 < x5038)) fun x5043 =>
  iteB x5043
  (bindO (at' p0 g3940) fun x5085 =>
  bindO (at' x5085.Events g4990) fun x5100 =>
  bindO (F_strconv_Itoa x5100) fun x5113 =>
  bindO (cat' [32] x5113) fun x5117 =>
  bindO (app' 1 g4988 (nums x5117)) fun x5119 =>
  letO (IntKind.i64.wrap (g4990 + 1)) fun x5123 =>
  k4994 (x5119, x5123))
  (some g4988)
def F_ref9_Print_L3 (p0 : List FleetRow) : (List Int) × Int → Option (List Int) := loopO fun k3945 ⟨g3938, g3940⟩ =>
  letO (p0.length : Int) fun x3959 =>
  letO (decide (g3940 < x3959)) fun x3964 =>
  iteB x3964
  (bindO (bindO (at' p0 g3940) fun x4329 =>
  bindO (letO (decide ((x4329.Key : Str) = [])) fun x4352 =>
  iteB x4352
  (some [45])
  (some x4329.Key)) fun g4348 =>
  bindO (cat' [114, 111, 119, 32] g4348) fun x4356 =>
  bindO (app' 1 g3938 (nums x4356)) fun x4358 =>
  bindO (bindO (at' p0 g3940) fun x4681 =>
  iteB x4681.Hidden
  (bindO (app' 1 x4358 (nums [32, 104, 105, 100, 100, 101, 110])) fun x4697 =>
  some x4697)
  (bindO (at' p0 g3940) fun x4702 =>
  bindO (F_strconv_Itoa x4702.Flights) fun x4718 =>
  bindO (cat' [32] x4718) fun x4722 =>
  bindO (app' 1 x4358 (nums x4722)) fun x4724 =>
  F_ref9_Print_L4 p0 g3940 (x4724, 0))) fun g4676 =>
  letO ([10] : List Int) fun _ =>
  bindO (app' 1 g4676 ([10] : List Int)) fun x5130 =>
  some x5130) fun g4324 =>
  letO (IntKind.i64.wrap (g3940 + 1)) fun x5134 =>
  k3945 (g4324, x5134))
  (some g3938)
/-- orangebox/orangeboxref9.Print -/
def F_ref9_Print (p0 : List FleetRow) : Option (Str × Int) :=
  bindO (F_ref9_CheckTable p0) fun x19 =>
  letO (decide (x19 ≠ 0)) fun x24 =>
  iteB x24
  (some ([], x19))
  (joinO (fun _ =>
  bindO (F_ref9_Print_L3 p0 ([], 0)) fun g3162 =>
  letO (g3162.length : Int) fun x5148 =>
  letO (decide (1000000 < x5148)) fun x5153 =>
  iteB x5153
  (some ([], 3))
  (letO (str' g3162) fun x5158 =>
  some (x5158, 0))) fun k949 =>
  F_ref9_Print_L1 p0 k949 0)

/-- orangebox/orangeboxlaw9.totals -/
def F_law9_totals : Option Bool :=
  letO ([1] : List Int) fun _ =>
  letO ([4] : List Int) fun _ =>
  letO ([FleetRow.mk [97] false 2 ([1] : List Int), FleetRow.mk [98] false 3 ([4] : List Int)] : List FleetRow) fun _ =>
  bindO (F_fleet_Total ([FleetRow.mk [97] false 2 ([1] : List Int), FleetRow.mk [98] false 3 ([4] : List Int)] : List FleetRow)) fun ⟨x24, x25⟩ =>
  bindO (letO (decide (x25 = 0)) fun x66 =>
  iteB x66
  (letO (decide (x24.Flights = 5)) fun x69 =>
  iteB x69
  (letO (x24.Events.length : Int) fun x72 =>
  letO (decide (x72 = 1)) fun x77 =>
  iteB x77
  (bindO (at' x24.Events 0) fun x80 =>
  letO (decide (x80 = 5)) fun x92 =>
  some x92)
  (some false))
  (some false))
  (some false)) fun g63 =>
  some g63

/-- orangebox/orangeboxlaw9.FleetRowsMatchSpec -/
def F_law9_FleetRowsMatchSpec (p0 : List FleetRow) (p1 : List FleetRow) (p2 : Int) : Option Bool :=
  bindO (F_fleet_Total p0) fun ⟨x8, x9⟩ =>
  bindO (F_ref9_Total p0) fun ⟨x20, x21⟩ =>
  bindO (bindO (F_fleet_CheckTable p0) fun x109 =>
  bindO (F_ref9_CheckTable p0) fun x112 =>
  letO (decide (x109 ≠ x112)) fun x114 =>
  iteB x114
  (some true)
  (letO ([x8] : List FleetRow) fun _ =>
  bindO (F_law9_rows ([x8] : List FleetRow) x9) fun x125 =>
  letO ([x20] : List FleetRow) fun _ =>
  bindO (F_law9_rows ([x20] : List FleetRow) x21) fun x134 =>
  letO (decide ((x125 : Str) ≠ x134)) fun x136 =>
  some x136)) fun g103 =>
  iteB g103
  (some false)
  (bindO (F_fleet_Reveals p0 p1 p2) fun ⟨x149, x150⟩ =>
  bindO (F_ref9_Reveals p0 p1 p2) fun ⟨x157, x158⟩ =>
  bindO (F_ref0_Ink_Texts (Orangeboxref0Ink.mk []) x149) fun x166 =>
  bindO (F_ref0_Ink_Texts (Orangeboxref0Ink.mk []) x157) fun x174 =>
  bindO (F_ref0_Ink_Errno x166 x150) fun x181 =>
  bindO (F_ref0_Ink_Errno x174 x158) fun x188 =>
  bindO (F_fleet_Print p0) fun ⟨x196, x197⟩ =>
  bindO (F_ref9_Print p0) fun ⟨x203, x204⟩ =>
  bindO (bindO (F_ref0_Ink_Told (some x181)) fun x239 =>
  bindO (F_ref0_Ink_Told (some x188)) fun x245 =>
  letO (decide ((x239 : Str) = x245)) fun x249 =>
  iteB x249
  (letO (decide ((x196 : Str) = x203)) fun x252 =>
  iteB x252
  (letO (decide (x197 = x204)) fun x255 =>
  iteB x255
  (bindO (F_law9_totals) fun x259 =>
  some x259)
  (some false))
  (some false))
  (some false)) fun g234 =>
  some g234)
end Go.Lf
