/- Plain functions: what the code computes. -/
import Derived.Test.YtbjhondbheijiaaGreatDoorYTy
import Derived.Test.YtbjhondbheijiaaGreatDoorXYc

namespace Go.Lf
open Go.RowKit Go.OB

/-- orangebox/event.within -/
def F_event_within (p0 : Int) (p1 : Int) (p2 : Int) : Option Bool :=
  bindO (letO (decide (p1 ≤ p0)) fun x10 =>
  iteB x10
  (letO (decide (p0 ≤ p2)) fun x13 =>
  some x13)
  (some false)) fun g7 =>
  some g7

/-- orangebox/event.isWord -/
def F_event_isWord (p0 : Str) : Option Bool :=
  bindO (letO (decide ((p0 : Str) = [112, 104, 97, 115, 101])) fun x138 =>
  iteB x138
  (some x138)
  (letO (decide ((p0 : Str) = [109, 111, 118, 101])) fun x142 =>
  iteB x142
  (some x142)
  (letO (decide ((p0 : Str) = [114, 117, 108, 101])) fun x146 =>
  iteB x146
  (some x146)
  (letO (decide ((p0 : Str) = [105, 102])) fun x150 =>
  iteB x150
  (some x150)
  (letO (decide ((p0 : Str) = [111, 114])) fun x154 =>
  iteB x154
  (some x154)
  (letO (decide ((p0 : Str) = [97, 110, 100])) fun x158 =>
  iteB x158
  (some x158)
  (letO (decide ((p0 : Str) = [116, 114, 117, 101])) fun x162 =>
  iteB x162
  (some x162)
  (letO (decide ((p0 : Str) = [102, 97, 108, 115, 101])) fun x166 =>
  iteB x166
  (some x166)
  (letO (decide ((p0 : Str) = [115, 116, 101, 97, 100, 121])) fun x170 =>
  iteB x170
  (some x170)
  (letO (decide ((p0 : Str) = [110, 111, 116])) fun x174 =>
  iteB x174
  (some x174)
  (letO (decide ((p0 : Str) = [102, 111, 114])) fun x178 =>
  iteB x178
  (some x178)
  (letO (decide ((p0 : Str) = [119, 105, 116, 104, 105, 110])) fun x182 =>
  iteB x182
  (some x182)
  (letO (decide ((p0 : Str) = [99, 111, 117, 110, 116])) fun x186 =>
  iteB x186
  (some x186)
  (letO (decide ((p0 : Str) = [111, 102])) fun x190 =>
  iteB x190
  (some x190)
  (letO (decide ((p0 : Str) = [114, 105, 115, 101, 115])) fun x194 =>
  iteB x194
  (some x194)
  (letO (decide ((p0 : Str) = [115, 105, 110, 99, 101])) fun x197 =>
  some x197)))))))))))))))) fun g134 =>
  iteB g134
  (some true)
  (some false)

/-- orangebox/event.nameByte -/
def F_event_nameByte (p0 : Int) : Option Bool :=
  bindO (letO (decide (97 ≤ p0)) fun x31 =>
  iteB x31
  (letO (decide (p0 ≤ 122)) fun x34 =>
  iteB x34
  (some true)
  (letO (decide (48 ≤ p0)) fun x37 =>
  iteB x37
  (letO (decide (p0 ≤ 57)) fun x40 =>
  iteB x40
  (some true)
  (letO (decide (p0 = 45)) fun x43 =>
  some x43))
  (letO (decide (p0 = 45)) fun x45 =>
  some x45)))
  (letO (decide (48 ≤ p0)) fun x47 =>
  iteB x47
  (letO (decide (p0 ≤ 57)) fun x50 =>
  iteB x50
  (some true)
  (letO (decide (p0 = 45)) fun x53 =>
  some x53))
  (letO (decide (p0 = 45)) fun x55 =>
  some x55))) fun g28 =>
  some g28

def F_event_isName_L1 (p0 : Str) (k169 : Unit → Option Bool) (x172 : Int) : Int → Option Bool := loopO fun k249 g245 =>
  letO (decide (g245 < x172)) fun x253 =>
  iteB x253
  (bindO (byte' p0 g245) fun x274 =>
  bindO (F_event_nameByte x274) fun x277 =>
  letO (!x277) fun x281 =>
  iteB x281
  (some false)
  (letO (IntKind.i64.wrap (g245 + 1)) fun x285 =>
  k249 x285))
  (k169 ())
/-- orangebox/event.isName -/
def F_event_isName (p0 : Str) : Option Bool :=
  bindO (letO (p0.length : Int) fun x61 =>
  bindO (F_event_within x61 1 30) fun x64 =>
  letO (!x64) fun x68 =>
  iteB x68
  (some true)
  (bindO (byte' p0 0) fun x71 =>
  letO (decide (x71 < 97)) fun x73 =>
  iteB x73
  (some true)
  (bindO (byte' p0 0) fun x76 =>
  letO (decide (122 < x76)) fun x78 =>
  iteB x78
  (some true)
  (bindO (F_event_isWord p0) fun x82 =>
  some x82)))) fun g58 =>
  iteB g58
  (some false)
  (joinO (fun _ =>
  some true) fun k169 =>
  letO (p0.length : Int) fun x172 =>
  F_event_isName_L1 p0 k169 x172 0)

/-- orangebox/event.IsName -/
def F_event_IsName (p0 : Str) : Option Bool :=
  bindO (F_event_isName p0) fun x4 =>
  some x4

/-- orangebox/fleet.within -/
def F_fleet_within (p0 : Int) (p1 : Int) (p2 : Int) : Option Bool :=
  bindO (letO (decide (p1 ≤ p0)) fun x10 =>
  iteB x10
  (letO (decide (p0 ≤ p2)) fun x13 =>
  some x13)
  (some false)) fun g7 =>
  some g7

/-- orangebox/event.CheckTracks$1 -/
def F_event_CheckTracks_1 (p0 : Track) (c0 : Track) : Option Bool :=
  letO (decide ((p0.Name : Str) = c0.Name)) fun x12 =>
  some x12

def F_slices_IndexFunc___api_Track_api_Track__event_CheckTracks_1_L1 (p0 : List Track) (p1c0 : Track) (k132 : Unit → Option Int) (x135 : Int) : Int → Option Int := loopO fun k255 g251 =>
  letO (decide (g251 < x135)) fun x259 =>
  iteB x259
  (bindO (at' p0 g251) fun x290 =>
  bindO (F_event_CheckTracks_1 x290 p1c0) fun x305 =>
  iteB x305
  (some g251)
  (letO (IntKind.i64.wrap (g251 + 1)) fun x311 =>
  k255 x311))
  (k132 ())
/-- slices.IndexFunc[[]orangebox/api.Track,orangebox/api.Track]@orangebox/event.CheckTracks$1 -/
def F_slices_IndexFunc___api_Track_api_Track__event_CheckTracks_1 (p0 : List Track) (p1c0 : Track) : Option Int :=
  joinO (fun _ =>
  some (-1)) fun k132 =>
  letO (p0.length : Int) fun x135 =>
  F_slices_IndexFunc___api_Track_api_Track__event_CheckTracks_1_L1 p0 p1c0 k132 x135 0

/-- slices.ContainsFunc[[]orangebox/api.Track,orangebox/api.Track]@orangebox/event.CheckTracks$1 -/
def F_slices_ContainsFunc___api_Track_api_Track__event_CheckTracks_1 (p0 : List Track) (p1c0 : Track) : Option Bool :=
  bindO (F_slices_IndexFunc___api_Track_api_Track__event_CheckTracks_1 p0 p1c0) fun x9 =>
  letO (decide (0 ≤ x9)) fun x13 =>
  some x13

/-- orangebox/series.within -/
def F_series_within (p0 : Int) (p1 : Int) (p2 : Int) : Option Bool :=
  bindO (letO (decide (p1 ≤ p0)) fun x10 =>
  iteB x10
  (letO (decide (p0 ≤ p2)) fun x13 =>
  some x13)
  (some false)) fun g7 =>
  some g7

def F_series_check_L1 (p0 : Series) (k413 : Unit → Option (Int × Int)) (x416 : Int) : Int → Option (Int × Int) := loopO fun k776 g772 =>
  letO (decide (g772 < x416)) fun x780 =>
  iteB x780
  (bindO (at' p0.Samples g772) fun x870 =>
  bindO (bindO (F_series_within x870.At 0 1099511627776) fun x913 =>
  letO (!x913) fun x917 =>
  iteB x917
  (some true)
  (bindO (F_series_within x870.N (-1125899906842624) 1125899906842624) fun x921 =>
  letO (!x921) fun x925 =>
  iteB x925
  (some true)
  (bindO (F_series_within x870.Mark 0 4) fun x929 =>
  letO (!x929) fun x933 =>
  some x933))) fun g909 =>
  iteB g909
  (some (g772, 9))
  (bindO (letO (decide (x870.N ≠ 0)) fun x945 =>
  iteB x945
  (letO (decide (x870.Mark ≤ 1)) fun x948 =>
  some x948)
  (some false)) fun g942 =>
  iteB g942
  (some (g772, 2))
  (bindO (letO (decide (0 < g772)) fun x980 =>
  iteB x980
  (letO (IntKind.i64.wrap (g772 - 1)) fun x983 =>
  bindO (at' p0.Samples x983) fun x985 =>
  letO (decide (x870.At ≤ x985.At)) fun x997 =>
  some x997)
  (some false)) fun g975 =>
  iteB g975
  (some (g772, 10))
  (letO (IntKind.i64.wrap (g772 + 1)) fun x1003 =>
  k776 x1003))))
  (k413 ())
/-- orangebox/series.check -/
def F_series_check (p0 : Series) : Option (Int × Int) :=
  bindO (F_series_within p0.Den 1 1000000) fun x20 =>
  letO (!x20) fun x24 =>
  iteB x24
  (some ((-1), 9))
  (letO (p0.Samples.length : Int) fun x40 =>
  letO (decide (20000 < x40)) fun x45 =>
  iteB x45
  (some ((-1), 3))
  (joinO (fun _ =>
  some ((-1), 0)) fun k413 =>
  letO (p0.Samples.length : Int) fun x416 =>
  F_series_check_L1 p0 k413 x416 0))

/-- orangebox/series.Check -/
def F_series_Check (p0 : Series) : Option Int :=
  bindO (F_series_check p0) fun ⟨x9, x10⟩ =>
  some x10

def F_event_CheckTracks_L1 (p0 : List Track) (k453 : Unit → Option Int) (x456 : Int) : Int → Option Int := loopO fun k880 g876 =>
  letO (decide (g876 < x456)) fun x884 =>
  iteB x884
  (bindO (at' p0 g876) fun x990 =>
  bindO (F_event_isName x990.Name) fun x1022 =>
  letO (!x1022) fun x1026 =>
  iteB x1026
  (some 8)
  (bindO (sub' p0 0 g876) fun x1044 =>
  bindO (F_slices_ContainsFunc___api_Track_api_Track__event_CheckTracks_1 x1044 x990) fun x1049 =>
  iteB x1049
  (some 5)
  (bindO (F_series_Check x990.Series) fun x1069 =>
  letO (decide (x1069 ≠ 0)) fun x1074 =>
  iteB x1074
  (some x1069)
  (bindO (F_event_within x990.Long 0 1099511627776) fun x1080 =>
  letO (!x1080) fun x1084 =>
  iteB x1084
  (some 9)
  (letO (IntKind.i64.wrap (g876 + 1)) fun x1088 =>
  k880 x1088)))))
  (k453 ())
/-- orangebox/event.CheckTracks -/
def F_event_CheckTracks (p0 : List Track) : Option Int :=
  letO (p0.length : Int) fun x16 =>
  letO (decide (50 < x16)) fun x21 =>
  iteB x21
  (some 3)
  (joinO (fun _ =>
  some 0) fun k453 =>
  letO (p0.length : Int) fun x456 =>
  F_event_CheckTracks_L1 p0 k453 x456 0)

/-- orangebox/fleet.CheckFlight -/
def F_fleet_CheckFlight (p0 : Flight) : Option Int :=
  bindO (letO (decide ((p0.Tail : Str) ≠ [])) fun x106 =>
  iteB x106
  (bindO (F_event_IsName p0.Tail) fun x110 =>
  letO (!x110) fun x114 =>
  iteB x114
  (some true)
  (bindO (F_event_IsName p0.Route) fun x118 =>
  letO (!x118) fun x122 =>
  some x122))
  (bindO (F_event_IsName p0.Route) fun x125 =>
  letO (!x125) fun x129 =>
  some x129)) fun g103 =>
  iteB g103
  (some 8)
  (bindO (bindO (F_fleet_within p0.Day 0 1000000) fun x153 =>
  letO (!x153) fun x157 =>
  iteB x157
  (some true)
  (letO (decide (p0.From < 0)) fun x160 =>
  iteB x160
  (some true)
  (letO (decide (p0.To < p0.From)) fun x163 =>
  iteB x163
  (some true)
  (letO (decide (4194304 ≤ p0.To)) fun x166 =>
  some x166)))) fun g149 =>
  iteB g149
  (some 9)
  (bindO (letO (IntKind.i64.wrap (p0.To - p0.From)) fun x187 =>
  letO (IntKind.i64.wrap (x187 + 1)) fun x189 =>
  letO (decide (20000 < x189)) fun x191 =>
  iteB x191
  (some true)
  (letO (p0.Tracks.length : Int) fun x194 =>
  letO (decide (30 < x194)) fun x199 =>
  some x199)) fun g184 =>
  iteB g184
  (some 3)
  (bindO (F_event_CheckTracks p0.Tracks) fun x205 =>
  some x205)))

def F_fleet_checkFlights_L1 (p0 : List Flight) (k181 : Unit → Option Int) (x184 : Int) : Int → Option Int := loopO fun k336 g332 =>
  letO (decide (g332 < x184)) fun x340 =>
  iteB x340
  (bindO (at' p0 g332) fun x378 =>
  bindO (F_fleet_CheckFlight x378) fun x399 =>
  letO (decide (x399 ≠ 0)) fun x404 =>
  iteB x404
  (some x399)
  (letO (IntKind.i64.wrap (g332 + 1)) fun x408 =>
  k336 x408))
  (k181 ())
/-- orangebox/fleet.checkFlights -/
def F_fleet_checkFlights (p0 : List Flight) : Option Int :=
  letO (p0.length : Int) fun x16 =>
  letO (decide (300 < x16)) fun x21 =>
  iteB x21
  (some 3)
  (joinO (fun _ =>
  some 0) fun k181 =>
  letO (p0.length : Int) fun x184 =>
  F_fleet_checkFlights_L1 p0 k181 x184 0)

def F_slices_Index___string_string__L1 (p0 : List Str) (p1 : Str) (k108 : Unit → Option Int) (x111 : Int) : Int → Option Int := loopO fun k211 g207 =>
  letO (decide (g207 < x111)) fun x215 =>
  iteB x215
  (bindO (at' p0 g207) fun x241 =>
  letO (decide ((p1 : Str) = x241)) fun x253 =>
  iteB x253
  (some g207)
  (letO (IntKind.i64.wrap (g207 + 1)) fun x257 =>
  k211 x257))
  (k108 ())
/-- slices.Index[[]string,string] -/
def F_slices_Index___string_string_ (p0 : List Str) (p1 : Str) : Option Int :=
  joinO (fun _ =>
  some (-1)) fun k108 =>
  letO (p0.length : Int) fun x111 =>
  F_slices_Index___string_string__L1 p0 p1 k108 x111 0

/-- slices.Contains[[]string,string] -/
def F_slices_Contains___string_string_ (p0 : List Str) (p1 : Str) : Option Bool :=
  bindO (F_slices_Index___string_string_ p0 p1) fun x6 =>
  letO (decide (0 ≤ x6)) fun x10 =>
  some x10

def F_fleet_checkNames_L1 (p0 : List Str) (k245 : Unit → Option Int) (x248 : Int) : Int → Option Int := loopO fun k464 g460 =>
  letO (decide (g460 < x248)) fun x468 =>
  iteB x468
  (bindO (at' p0 g460) fun x522 =>
  bindO (F_event_IsName x522) fun x547 =>
  letO (!x547) fun x551 =>
  iteB x551
  (some 8)
  (bindO (sub' p0 0 g460) fun x556 =>
  bindO (F_slices_Contains___string_string_ x556 x522) fun x562 =>
  iteB x562
  (some 5)
  (letO (IntKind.i64.wrap (g460 + 1)) fun x568 =>
  k464 x568)))
  (k245 ())
/-- orangebox/fleet.checkNames -/
def F_fleet_checkNames (p0 : List Str) : Option Int :=
  letO (p0.length : Int) fun x16 =>
  letO (decide (30 < x16)) fun x21 =>
  iteB x21
  (some 3)
  (joinO (fun _ =>
  some 0) fun k245 =>
  letO (p0.length : Int) fun x248 =>
  F_fleet_checkNames_L1 p0 k245 x248 0)

/-- orangebox/fleet.CheckMask$1 -/
def F_fleet_CheckMask_1 (p0 : Grain) (c0 : Grain) : Option Bool :=
  letO (decide ((p0.Track : Str) = c0.Track)) fun x8 =>
  some x8

def F_slices_IndexFunc___api_Grain_api_Grain__fleet_CheckMask_1_L1 (p0 : List Grain) (p1c0 : Grain) (k118 : Unit → Option Int) (x121 : Int) : Int → Option Int := loopO fun k229 g225 =>
  letO (decide (g225 < x121)) fun x233 =>
  iteB x233
  (bindO (at' p0 g225) fun x261 =>
  bindO (F_fleet_CheckMask_1 x261 p1c0) fun x273 =>
  iteB x273
  (some g225)
  (letO (IntKind.i64.wrap (g225 + 1)) fun x279 =>
  k229 x279))
  (k118 ())
/-- slices.IndexFunc[[]orangebox/api.Grain,orangebox/api.Grain]@orangebox/fleet.CheckMask$1 -/
def F_slices_IndexFunc___api_Grain_api_Grain__fleet_CheckMask_1 (p0 : List Grain) (p1c0 : Grain) : Option Int :=
  joinO (fun _ =>
  some (-1)) fun k118 =>
  letO (p0.length : Int) fun x121 =>
  F_slices_IndexFunc___api_Grain_api_Grain__fleet_CheckMask_1_L1 p0 p1c0 k118 x121 0

/-- slices.ContainsFunc[[]orangebox/api.Grain,orangebox/api.Grain]@orangebox/fleet.CheckMask$1 -/
def F_slices_ContainsFunc___api_Grain_api_Grain__fleet_CheckMask_1 (p0 : List Grain) (p1c0 : Grain) : Option Bool :=
  bindO (F_slices_IndexFunc___api_Grain_api_Grain__fleet_CheckMask_1 p0 p1c0) fun x7 =>
  letO (decide (0 ≤ x7)) fun x11 =>
  some x11

def F_fleet_CheckMask_L1 (p0 : Mask) (k302 : Unit → Option Int) (x305 : Int) : Int → Option Int := loopO fun k529 g525 =>
  letO (decide (g525 < x305)) fun x533 =>
  iteB x533
  (bindO (at' p0.Grains g525) fun x589 =>
  bindO (F_event_IsName x589.Track) fun x607 =>
  letO (!x607) fun x611 =>
  iteB x611
  (some 8)
  (bindO (sub' p0.Grains 0 g525) fun x616 =>
  bindO (F_slices_ContainsFunc___api_Grain_api_Grain__fleet_CheckMask_1 x616 x589) fun x621 =>
  iteB x621
  (some 5)
  (bindO (F_fleet_within x589.N 1 1125899906842624) fun x629 =>
  letO (!x629) fun x633 =>
  iteB x633
  (some 9)
  (letO (IntKind.i64.wrap (g525 + 1)) fun x637 =>
  k529 x637))))
  (k302 ())
/-- orangebox/fleet.CheckMask -/
def F_fleet_CheckMask (p0 : Mask) : Option Int :=
  bindO (F_fleet_within p0.Days 1 1000000) fun x22 =>
  letO (!x22) fun x26 =>
  iteB x26
  (some 9)
  (bindO (F_fleet_checkNames p0.Hide) fun x44 =>
  letO (decide (x44 ≠ 0)) fun x49 =>
  iteB x49
  (some x44)
  (letO (p0.Grains.length : Int) fun x65 =>
  letO (decide (30 < x65)) fun x70 =>
  iteB x70
  (some 3)
  (joinO (fun _ =>
  bindO (F_fleet_within p0.Least 1 1000) fun x652 =>
  letO (!x652) fun x656 =>
  iteB x656
  (some 9)
  (some 0)) fun k302 =>
  letO (p0.Grains.length : Int) fun x305 =>
  F_fleet_CheckMask_L1 p0 k302 x305 0)))

/-- slices.Clone[[]orangebox/api.Sample,orangebox/api.Sample] -/
def F_slices_Clone___api_Sample_api_Sample_ (p0 : List Sample) : Option (List Sample) :=
  nilO p0 fun x18 =>
  iteB x18
  (some [])
  (bindO (app' 24 ([] : List Sample) p0) fun x27 =>
  some x27)

/-- orangebox/fleet.coarse -/
def F_fleet_coarse (p0 : Int) (p1 : Int) : Option Int :=
  bindO (rem' p0 p1) fun x3 =>
  bindO (letO (decide (x3 < 0)) fun x15 =>
  iteB x15
  (letO (IntKind.i64.wrap (x3 + p1)) fun x18 =>
  some x18)
  (some x3)) fun g11 =>
  letO (IntKind.i64.wrap (p0 - g11)) fun x21 =>
  letO (max x21 (-1125899906842624) : Int) fun x23 =>
  some x23

def F_fleet_masked_L3 (x3689 : Grain) (x3715 : Int) : Int × (List Sample) → Option (List Sample) := loopO fun k3829 ⟨g3824, g3825⟩ =>
  letO (decide (g3824 < x3715)) fun x3833 =>
  iteB x3833
  (bindO (bindO (at' g3825 g3824) fun x3882 =>
  letO (decide (2 ≤ x3882.Mark)) fun x3898 =>
  iteB x3898
  (bindO (F_fleet_coarse x3882.N x3689.N) fun x3904 =>
  bindO (at' g3825 g3824) fun x3906 =>
  bindO (set' g3825 g3824 (Sample.mk x3906.At x3904 x3906.Mark)) fun x3917 =>
  some x3917)
  (some g3825)) fun g3878 =>
  letO (IntKind.i64.wrap (g3824 + 1)) fun x3921 =>
  k3829 (x3921, g3878))
  (some g3825)
def F_fleet_masked_L2 (p1 : Mask) (x2850 : Track) (x3216 : Int) : Int × (List Sample) → Option (List Sample) := loopO fun k3534 ⟨g3529, g3530⟩ =>
  letO (decide (g3529 < x3216)) fun x3538 =>
  iteB x3538
  (bindO (bindO (at' p1.Grains g3529) fun x3689 =>
  letO (decide ((x3689.Track : Str) ≠ x2850.Name)) fun x3711 =>
  iteB x3711
  (some g3530)
  (letO (g3530.length : Int) fun x3715 =>
  F_fleet_masked_L3 x3689 x3715 (0, g3530))) fun g3685 =>
  letO (IntKind.i64.wrap (g3529 + 1)) fun x3923 =>
  k3534 (x3923, g3685))
  (some g3530)
def F_fleet_masked_L1 (p0 : Flight) (p1 : Mask) (x1252 : Int) : (List Track) × Int → Option (List Track) := loopO fun k2461 ⟨g2454, g2456⟩ =>
  letO (decide (g2456 < x1252)) fun x2465 =>
  iteB x2465
  (bindO (bindO (at' p0.Tracks g2456) fun x2850 =>
  bindO (F_slices_Contains___string_string_ p1.Hide x2850.Name) fun x2879 =>
  iteB x2879
  (some g2454)
  (bindO (F_slices_Clone___api_Sample_api_Sample_ x2850.Series.Samples) fun x2885 =>
  bindO (letO (p1.Grains.length : Int) fun x3216 =>
  F_fleet_masked_L2 p1 x2850 x3216 (0, x2885)) fun g3212 =>
  letO ([Track.mk x2850.Name (Series.mk x2850.Series.Den g3212) x2850.Long] : List Track) fun _ =>
  bindO (app' 56 g2454 ([Track.mk x2850.Name (Series.mk x2850.Series.Den g3212) x2850.Long] : List Track)) fun x3930 =>
  some x3930)) fun g2845 =>
  letO (IntKind.i64.wrap (g2456 + 1)) fun x3934 =>
  k2461 (g2845, x3934))
  (some g2454)
/-- orangebox/fleet.masked -/
def F_fleet_masked (p0 : Flight) (p1 : Mask) : Option Flight :=
  bindO (iteB p1.Tails
  (some [])
  (some p0.Tail)) fun g21 =>
  bindO (rem' p0.Day p1.Days) fun x30 =>
  letO (IntKind.i64.wrap (p0.Day - x30)) fun x32 =>
  bindO (letO (p0.Tracks.length : Int) fun x1252 =>
  F_fleet_masked_L1 p0 p1 x1252 ([], 0)) fun g1247 =>
  some (Flight.mk g21 p0.Route x32 p0.From p0.To g1247)

def F_fleet_trackOf_L1 (p0 : Flight) (p1 : Str) (k184 : Unit → Option (Option Track)) (x187 : Int) : Int → Option (Option Track) := loopO fun k359 g355 =>
  letO (decide (g355 < x187)) fun x363 =>
  iteB x363
  (bindO (at' p0.Tracks g355) fun x407 =>
  letO (decide ((x407.Name : Str) = p1)) fun x422 =>
  iteB x422
  (bindO (at' p0.Tracks g355) fun x426 =>
  some (some x426))
  (letO (IntKind.i64.wrap (g355 + 1)) fun x442 =>
  k359 x442))
  (k184 ())
/-- orangebox/fleet.trackOf -/
def F_fleet_trackOf (p0 : Flight) (p1 : Str) : Option (Option Track) :=
  joinO (fun _ =>
  some none) fun k184 =>
  letO (p0.Tracks.length : Int) fun x187 =>
  F_fleet_trackOf_L1 p0 p1 k184 x187 0

def F_fleet_peak_L1 (p0 : Flight) (x221 : Track) (x235 : Int) : Int × Bool × Int → Option (Int × Bool) := loopO fun k409 ⟨g403, g404, g405⟩ =>
  letO (decide (g405 < x235)) fun x413 =>
  iteB x413
  (bindO (bindO (at' x221.Series.Samples g405) fun x495 =>
  bindO (letO (decide (x495.Mark < 3)) fun x555 =>
  iteB x555
  (some true)
  (letO (IntKind.i64.wrap (64 * p0.From)) fun x558 =>
  letO (IntKind.i64.wrap (64 * p0.To)) fun x560 =>
  letO (IntKind.i64.wrap (x560 + 64)) fun x562 =>
  letO (IntKind.i64.wrap (x562 - 1)) fun x564 =>
  bindO (F_fleet_within x495.At x558 x564) fun x567 =>
  letO (!x567) fun x571 =>
  some x571)) fun g552 =>
  iteB g552
  (some (g403, g404))
  (bindO (letO (!g404) fun x582 =>
  iteB x582
  (some true)
  (letO (decide (g403 < x495.N)) fun x585 =>
  some x585)) fun g579 =>
  iteB g579
  (some (x495.N, true))
  (some (g403, g404)))) fun ⟨g489, g490⟩ =>
  letO (IntKind.i64.wrap (g405 + 1)) fun x588 =>
  k409 (g489, g490, x588))
  (some (g403, g404))
/-- orangebox/fleet.peak -/
def F_fleet_peak (p0 : Flight) (p1 : Str) : Option (Int × Bool) :=
  bindO (F_fleet_trackOf p0 p1) fun x8 =>
  letO x8.isNone fun x21 =>
  iteB x21
  (some (0, false))
  (bindO (bindO x8 fun x221 =>
  letO (x221.Series.Samples.length : Int) fun x235 =>
  F_fleet_peak_L1 p0 x221 x235 (0, false, 0)) fun ⟨g215, g216⟩ =>
  some (g215, g216))

/-- orangebox/fleet.peaksOf$1 -/
def F_fleet_peaksOf_1 (p0 : FleetPeaks) (c0 : Mask) : Option Bool :=
  letO (p0.l.length : Int) fun x16 =>
  letO (decide (x16 < c0.Least)) fun x21 =>
  some x21

def F_slices_IndexFunc___fleet_peaks_fleet_peaks__fleet_peaksOf_1_L1 (p0 : List FleetPeaks) (p1c0 : Mask) (k146 : Unit → Option Int) (x149 : Int) : Int → Option Int := loopO fun k281 g277 =>
  letO (decide (g277 < x149)) fun x285 =>
  iteB x285
  (bindO (at' p0 g277) fun x319 =>
  bindO (F_fleet_peaksOf_1 x319 p1c0) fun x337 =>
  iteB x337
  (some g277)
  (letO (IntKind.i64.wrap (g277 + 1)) fun x343 =>
  k281 x343))
  (k146 ())
/-- slices.IndexFunc[[]orangebox/fleet.peaks,orangebox/fleet.peaks]@orangebox/fleet.peaksOf$1 -/
def F_slices_IndexFunc___fleet_peaks_fleet_peaks__fleet_peaksOf_1 (p0 : List FleetPeaks) (p1c0 : Mask) : Option Int :=
  joinO (fun _ =>
  some (-1)) fun k146 =>
  letO (p0.length : Int) fun x149 =>
  F_slices_IndexFunc___fleet_peaks_fleet_peaks__fleet_peaksOf_1_L1 p0 p1c0 k146 x149 0

/-- slices.ContainsFunc[[]orangebox/fleet.peaks,orangebox/fleet.peaks]@orangebox/fleet.peaksOf$1 -/
def F_slices_ContainsFunc___fleet_peaks_fleet_peaks__fleet_peaksOf_1 (p0 : List FleetPeaks) (p1c0 : Mask) : Option Bool :=
  bindO (F_slices_IndexFunc___fleet_peaks_fleet_peaks__fleet_peaksOf_1 p0 p1c0) fun x11 =>
  letO (decide (0 ≤ x11)) fun x15 =>
  some x15

def F_fleet_peaksOf_L1 (p0 : List (List Flight)) (k152 : Unit → Option ((List FleetPeaks) × Int)) (x155 : Int) : Int → Option ((List FleetPeaks) × Int) := loopO fun k291 g287 =>
  letO (decide (g287 < x155)) fun x295 =>
  iteB x295
  (bindO (at' p0 g287) fun x329 =>
  bindO (F_fleet_checkFlights x329) fun x346 =>
  letO (decide (x346 ≠ 0)) fun x351 =>
  iteB x351
  (some ([], x346))
  (letO (IntKind.i64.wrap (g287 + 1)) fun x356 =>
  k291 x356))
  (k152 ())
def F_fleet_peaksOf_L3 (p1 : Mask) (p2 : Str) (x2860 : List Flight) (x3198 : Int) : Int × Bool × Int × (List Int) × (List Int) → Option (Int × Bool × (List Int) × (List Int)) := loopO fun k3510 ⟨g3496, g3497, g3498, g3500, g3503⟩ =>
  letO (decide (g3498 < x3198)) fun x3514 =>
  iteB x3514
  (bindO (bindO (at' x2860 g3498) fun x3651 =>
  bindO (F_fleet_masked x3651 p1) fun x3671 =>
  bindO (F_fleet_peak x3671 p2) fun ⟨x3680, x3681⟩ =>
  letO (!x3681) fun x3691 =>
  iteB x3691
  (some (g3496, g3497, g3500, g3503))
  (bindO (F_fleet_trackOf x3671 p2) fun x3695 =>
  bindO x3695 fun x3701 =>
  bindO (iteB g3497
  (some true)
  (letO (decide (g3496 ≠ 0)) fun x3725 =>
  iteB x3725
  (letO (decide (x3701.Series.Den ≠ g3496)) fun x3728 =>
  some x3728)
  (some false))) fun g3721 =>
  letO ([x3680] : List Int) fun _ =>
  letO ([g3498] : List Int) fun _ =>
  bindO (app' 8 g3500 ([x3680] : List Int)) fun x3754 =>
  bindO (app' 8 g3503 ([g3498] : List Int)) fun x3770 =>
  some (x3701.Series.Den, g3721, x3754, x3770))) fun ⟨g3641, g3642, g3643, g3645⟩ =>
  letO (IntKind.i64.wrap (g3498 + 1)) fun x3778 =>
  k3510 (g3641, g3642, x3778, g3643, g3645))
  (some (g3496, g3497, g3500, g3503))
def F_fleet_peaksOf_L2 (p0 : List (List Flight)) (p1 : Mask) (p2 : Str) (x1454 : Int) : (List FleetPeaks) × Int × Bool × Int → Option ((List FleetPeaks) × Bool) := loopO fun k2496 ⟨g2487, g2489, g2490, g2491⟩ =>
  letO (decide (g2491 < x1454)) fun x2500 =>
  iteB x2500
  (bindO (bindO (at' p0 g2491) fun x2860 =>
  bindO (letO (x2860.length : Int) fun x3198 =>
  F_fleet_peaksOf_L3 p1 p2 x2860 x3198 (g2489, g2490, 0, [], [])) fun ⟨g3186, g3187, g3189, g3192⟩ =>
  letO ([FleetPeaks.mk g3189 g3192 0] : List FleetPeaks) fun _ =>
  bindO (app' 56 g2487 ([FleetPeaks.mk g3189 g3192 0] : List FleetPeaks)) fun x3785 =>
  some (x3785, g3186, g3187)) fun ⟨g2852, g2854, g2855⟩ =>
  letO (IntKind.i64.wrap (g2491 + 1)) fun x3789 =>
  k2496 (g2852, g2854, g2855, x3789))
  (some (g2487, g2490))
/-- orangebox/fleet.peaksOf -/
def F_fleet_peaksOf (p0 : List (List Flight)) (p1 : Mask) (p2 : Str) : Option ((List FleetPeaks) × Int) :=
  joinO (fun _ =>
  bindO (F_fleet_CheckMask p1) fun x372 =>
  letO (decide (x372 ≠ 0)) fun x377 =>
  iteB x377
  (some ([], x372))
  (bindO (F_event_IsName p2) fun x395 =>
  letO (!x395) fun x399 =>
  iteB x399
  (some ([], 8))
  (bindO (letO (p0.length : Int) fun x1454 =>
  F_fleet_peaksOf_L2 p0 p1 p2 x1454 ([], 0, false, 0)) fun ⟨g1447, g1449⟩ =>
  bindO (F_slices_ContainsFunc___fleet_peaks_fleet_peaks__fleet_peaksOf_1 g1447 p1) fun x3800 =>
  iteB x3800
  (some ([], 4))
  (iteB g1449
  (some ([], 2))
  (some (g1447, 0)))))) fun k152 =>
  letO (p0.length : Int) fun x155 =>
  F_fleet_peaksOf_L1 p0 k152 x155 0

def F_fleet_sum_L1 (p0 : List Int) (x101 : Int) : Int × Int → Option Int := loopO fun k191 ⟨g186, g187⟩ =>
  letO (decide (g187 < x101)) fun x195 =>
  iteB x195
  (bindO (at' p0 g187) fun x217 =>
  letO (IntKind.i64.wrap (g186 + x217)) fun x229 =>
  letO (IntKind.i64.wrap (g187 + 1)) fun x231 =>
  k191 (x229, x231))
  (some g186)
/-- orangebox/fleet.sum -/
def F_fleet_sum (p0 : List Int) : Option Int :=
  bindO (letO (p0.length : Int) fun x101 =>
  F_fleet_sum_L1 p0 x101 (0, 0)) fun g97 =>
  some g97

def F_fleet_divisor_L1 : Int × Int → Option Int := loopO fun k85 ⟨g80, g81⟩ =>
  letO (decide (g81 ≠ 0)) fun x94 =>
  iteB x94
  (bindO (rem' g80 g81) fun x99 =>
  k85 (g81, x99))
  (some g80)
/-- orangebox/fleet.divisor -/
def F_fleet_divisor (p0 : Int) (p1 : Int) : Option Int :=
  letO (IntKind.i64.wrap (-p0)) fun x3 =>
  letO (max p0 x3 : Int) fun x5 =>
  letO (IntKind.i64.wrap (-p1)) fun x7 =>
  letO (max p1 x7 : Int) fun x9 =>
  bindO (F_fleet_divisor_L1 (x5, x9)) fun g47 =>
  some g47

/-- math/bits.Mul64 -/
def F_math_bits_Mul64 (p0 : Int) (p1 : Int) : Option (Int × Int) :=
  letO (bits .and .u64 p0 4294967295) fun x3 =>
  bindO (shr' .u64 p0 32) fun x6 =>
  letO (bits .and .u64 p1 4294967295) fun x9 =>
  bindO (shr' .u64 p1 32) fun x12 =>
  letO (IntKind.u64.wrap (x3 * x9)) fun x15 =>
  letO (IntKind.u64.wrap (x6 * x9)) fun x18 =>
  bindO (shr' .u64 x15 32) fun x20 =>
  letO (IntKind.u64.wrap (x18 + x20)) fun x22 =>
  letO (bits .and .u64 x22 4294967295) fun x25 =>
  bindO (shr' .u64 x22 32) fun x28 =>
  letO (IntKind.u64.wrap (x3 * x12)) fun x31 =>
  letO (IntKind.u64.wrap (x25 + x31)) fun x33 =>
  letO (IntKind.u64.wrap (x6 * x12)) fun x36 =>
  letO (IntKind.u64.wrap (x36 + x28)) fun x38 =>
  bindO (shr' .u64 x33 32) fun x40 =>
  letO (IntKind.u64.wrap (x38 + x40)) fun x42 =>
  letO (IntKind.u64.wrap (p0 * p1)) fun x45 =>
  some (x42, x45)

/-- orangebox/fleet.mixed -/
def F_fleet_mixed (p0 : Int) (p1 : Int) (p2 : Int) : Option (Ratio × Bool) :=
  bindO (F_fleet_divisor p1 p2) fun x7 =>
  bindO (quo' .i64 p1 x7) fun x14 =>
  bindO (quo' .i64 p2 x7) fun x16 =>
  letO (IntKind.i64.wrap (-p0)) fun x20 =>
  letO (max p0 x20 : Int) fun x22 =>
  letO (IntKind.u64.wrap x22) fun x24 =>
  letO (IntKind.u64.wrap x16) fun x26 =>
  bindO (F_math_bits_Mul64 x24 x26) fun ⟨x29, x30⟩ =>
  bindO (letO (decide (0 < x29)) fun x66 =>
  iteB x66
  (some true)
  (letO (IntKind.u64.wrap x16) fun x69 =>
  letO (IntKind.u64.wrap (2 * x69)) fun x71 =>
  letO (IntKind.u64.wrap (4611686018427387904 + x71)) fun x73 =>
  letO (decide (x73 < x30)) fun x75 =>
  some x75)) fun g63 =>
  iteB g63
  (some (Ratio.mk 0 0, false))
  (letO (IntKind.i64.wrap x30) fun x81 =>
  bindO (letO (decide (p0 < 0)) fun x93 =>
  iteB x93
  (letO (IntKind.i64.wrap (-x81)) fun x96 =>
  some x96)
  (some x81)) fun g89 =>
  letO (IntKind.i64.wrap (g89 + x14)) fun x99 =>
  bindO (F_fleet_within x99 (-4611686018427387904) 4611686018427387904) fun x103 =>
  some (Ratio.mk x99 x16, x103))

/-- orangebox/fleet.Apart -/
def F_fleet_Apart (p0 : List Flight) (p1 : List Flight) (p2 : Mask) (p3 : Str) : Option (Ratio × Int) :=
  letO ([p0, p1] : List (List Flight)) fun _ =>
  bindO (F_fleet_peaksOf ([p0, p1] : List (List Flight)) p2 p3) fun ⟨x22, x23⟩ =>
  letO (decide (x23 ≠ 0)) fun x37 =>
  iteB x37
  (some (Ratio.mk 0 0, x23))
  (bindO (at' x22 0) fun x45 =>
  bindO (F_fleet_sum x45.l) fun x64 =>
  bindO (at' x22 0) fun x66 =>
  letO (x66.l.length : Int) fun x84 =>
  bindO (at' x22 1) fun x93 =>
  bindO (F_fleet_sum x93.l) fun x112 =>
  bindO (at' x22 1) fun x114 =>
  letO (x114.l.length : Int) fun x132 =>
  bindO (quo' .i64 x64 x84) fun x141 =>
  bindO (quo' .i64 x112 x132) fun x143 =>
  letO (IntKind.i64.wrap (x141 - x143)) fun x145 =>
  bindO (rem' x64 x84) fun x147 =>
  letO (IntKind.i64.wrap (x147 * x132)) fun x149 =>
  bindO (rem' x112 x132) fun x151 =>
  letO (IntKind.i64.wrap (x151 * x84)) fun x153 =>
  letO (IntKind.i64.wrap (x149 - x153)) fun x155 =>
  letO (IntKind.i64.wrap (x84 * x132)) fun x157 =>
  bindO (F_fleet_mixed x145 x155 x157) fun ⟨x160, x161⟩ =>
  letO (!x161) fun x176 =>
  iteB x176
  (some (Ratio.mk 0 0, 3))
  (some (x160, 0)))

/-- orangebox/orangeboxref6.words -/
def F_ref6_words : Option (List Str) :=
  letO ([[112, 104, 97, 115, 101], [109, 111, 118, 101], [114, 117, 108, 101], [105, 102], [111, 114], [97, 110, 100], [116, 114, 117, 101], [102, 97, 108, 115, 101], [115, 116, 101, 97, 100, 121], [110, 111, 116], [102, 111, 114], [119, 105, 116, 104, 105, 110], [99, 111, 117, 110, 116], [111, 102], [114, 105, 115, 101, 115], [115, 105, 110, 99, 101]] : List Str) fun _ =>
  some ([[112, 104, 97, 115, 101], [109, 111, 118, 101], [114, 117, 108, 101], [105, 102], [111, 114], [97, 110, 100], [116, 114, 117, 101], [102, 97, 108, 115, 101], [115, 116, 101, 97, 100, 121], [110, 111, 116], [102, 111, 114], [119, 105, 116, 104, 105, 110], [99, 111, 117, 110, 116], [111, 102], [114, 105, 115, 101, 115], [115, 105, 110, 99, 101]] : List Str)

def F_ref6_Reserved_L1 (p0 : Str) (x3 : List Str) (k126 : Unit → Option Bool) : Int → Option Bool := loopO fun k242 g238 =>
  letO (x3.length : Int) fun x256 =>
  letO (decide (g238 < x256)) fun x261 =>
  iteB x261
  (bindO (at' x3 g238) fun x282 =>
  letO (decide ((x282 : Str) = p0)) fun x293 =>
  iteB x293
  (some true)
  (letO (IntKind.i64.wrap (g238 + 1)) fun x297 =>
  k242 x297))
  (k126 ())
/-- orangebox/orangeboxref6.Reserved -/
def F_ref6_Reserved (p0 : Str) : Option Bool :=
  bindO (F_ref6_words) fun x3 =>
  joinO (fun _ =>
  some false) fun k126 =>
  F_ref6_Reserved_L1 p0 x3 k126 0

def F_ref6_IsName_L1 (p0 : Str) (k235 : Unit → Option Bool) : Int → Option Bool := loopO fun k467 g463 =>
  letO (p0.length : Int) fun x478 =>
  letO (decide (g463 < x478)) fun x480 =>
  iteB x480
  (bindO (byte' p0 g463) fun x533 =>
  bindO (letO (decide (97 ≤ x533)) fun x578 =>
  iteB x578
  (letO (decide (x533 ≤ 122)) fun x581 =>
  iteB x581
  (some false)
  (letO (decide (0 < g463)) fun x584 =>
  iteB x584
  (letO (decide (48 ≤ x533)) fun x587 =>
  iteB x587
  (letO (decide (x533 ≤ 57)) fun x590 =>
  iteB x590
  (some false)
  (letO (decide (x533 = 45)) fun x593 =>
  letO (!x593) fun x595 =>
  some x595))
  (letO (decide (x533 = 45)) fun x597 =>
  letO (!x597) fun x599 =>
  some x599))
  (some true)))
  (letO (decide (0 < g463)) fun x601 =>
  iteB x601
  (letO (decide (48 ≤ x533)) fun x604 =>
  iteB x604
  (letO (decide (x533 ≤ 57)) fun x607 =>
  iteB x607
  (some false)
  (letO (decide (x533 = 45)) fun x610 =>
  letO (!x610) fun x612 =>
  some x612))
  (letO (decide (x533 = 45)) fun x614 =>
  letO (!x614) fun x616 =>
  some x616))
  (some true))) fun g575 =>
  iteB g575
  (some false)
  (letO (IntKind.i64.wrap (g463 + 1)) fun x620 =>
  k467 x620))
  (k235 ())
/-- orangebox/orangeboxref6.IsName -/
def F_ref6_IsName (p0 : Str) : Option Bool :=
  joinO (fun _ =>
  bindO (letO (decide ((p0 : Str) ≠ [])) fun x640 =>
  iteB x640
  (letO (p0.length : Int) fun x643 =>
  letO (decide (x643 ≤ 30)) fun x645 =>
  iteB x645
  (bindO (F_ref6_Reserved p0) fun x649 =>
  letO (!x649) fun x653 =>
  some x653)
  (some false))
  (some false)) fun g637 =>
  some g637) fun k235 =>
  F_ref6_IsName_L1 p0 k235 0

/-- orangebox/orangeboxref9.outside -/
def F_ref9_outside (p0 : Int) (p1 : Int) (p2 : Int) : Option Bool :=
  bindO (letO (decide (p0 < p1)) fun x10 =>
  iteB x10
  (some true)
  (letO (decide (p2 < p0)) fun x13 =>
  some x13)) fun g7 =>
  some g7

/-- orangebox/orangeboxref5.outside -/
def F_ref5_outside (p0 : Int) (p1 : Int) (p2 : Int) : Option Bool :=
  bindO (letO (decide (p0 < p1)) fun x10 =>
  iteB x10
  (some true)
  (letO (decide (p2 < p0)) fun x13 =>
  some x13)) fun g7 =>
  some g7

/-- orangebox/orangeboxref5.numbered -/
def F_ref5_numbered (p0 : Int) : Option Bool :=
  letO (decide (2 ≤ p0)) fun x3 =>
  some x3

/-- orangebox/orangeboxref5.sampleFault -/
def F_ref5_sampleFault (p0 : Sample) : Option Int :=
  bindO (bindO (F_ref5_outside p0.At 0 1099511627776) fun x49 =>
  iteB x49
  (some true)
  (bindO (F_ref5_outside p0.N (-1125899906842624) 1125899906842624) fun x55 =>
  iteB x55
  (some true)
  (bindO (F_ref5_outside p0.Mark 0 4) fun x61 =>
  some x61))) fun g45 =>
  iteB g45
  (some 9)
  (bindO (letO (decide (p0.N ≠ 0)) fun x96 =>
  iteB x96
  (bindO (F_ref5_numbered p0.Mark) fun x100 =>
  letO (!x100) fun x104 =>
  some x104)
  (some false)) fun g93 =>
  iteB g93
  (some 2)
  (some 0))

def F_ref5_fault_L1 (p0 : Series) (k446 : Unit → Option (Int × Int)) : Int → Option (Int × Int) := loopO fun k846 g842 =>
  letO (p0.Samples.length : Int) fun x860 =>
  letO (decide (g842 < x860)) fun x865 =>
  iteB x865
  (bindO (at' p0.Samples g842) fun x981 =>
  bindO (F_ref5_sampleFault x981) fun x994 =>
  letO (decide (x994 ≠ 0)) fun x999 =>
  iteB x999
  (some (g842, x994))
  (bindO (letO (decide (0 < g842)) fun x1043 =>
  iteB x1043
  (bindO (at' p0.Samples g842) fun x1046 =>
  letO (IntKind.i64.wrap (g842 - 1)) fun x1058 =>
  bindO (at' p0.Samples x1058) fun x1060 =>
  letO (decide (x1046.At ≤ x1060.At)) fun x1072 =>
  some x1072)
  (some false)) fun g1038 =>
  iteB g1038
  (some (g842, 10))
  (letO (IntKind.i64.wrap (g842 + 1)) fun x1078 =>
  k846 x1078)))
  (k446 ())
/-- orangebox/orangeboxref5.fault -/
def F_ref5_fault (p0 : Series) : Option (Int × Int) :=
  bindO (F_ref5_outside p0.Den 1 1000000) fun x18 =>
  iteB x18
  (some ((-1), 9))
  (letO (p0.Samples.length : Int) fun x36 =>
  letO (decide (20000 < x36)) fun x41 =>
  iteB x41
  (some ((-1), 3))
  (joinO (fun _ =>
  some ((-1), 0)) fun k446 =>
  F_ref5_fault_L1 p0 k446 0))

/-- orangebox/orangeboxref5.Check -/
def F_ref5_Check (p0 : Series) : Option Int :=
  bindO (F_ref5_fault p0) fun ⟨x9, x10⟩ =>
  some x10

/-- orangebox/orangeboxref6.outside -/
def F_ref6_outside (p0 : Int) (p1 : Int) (p2 : Int) : Option Bool :=
  bindO (letO (decide (p0 < p1)) fun x10 =>
  iteB x10
  (some true)
  (letO (decide (p2 < p0)) fun x13 =>
  some x13)) fun g7 =>
  some g7

def F_ref6_CheckTracks_L2 (p0 : List Track) (g4118 : Int) (k4881 : Unit → Option Int) : Int → Option Int := loopO fun k5065 g5061 =>
  letO (decide (g5061 < g4118)) fun x5074 =>
  iteB x5074
  (bindO (at' p0 g5061) fun x5119 =>
  bindO (at' p0 g4118) fun x5134 =>
  letO (decide ((x5119.Name : Str) = x5134.Name)) fun x5149 =>
  iteB x5149
  (some 5)
  (letO (IntKind.i64.wrap (g5061 + 1)) fun x5154 =>
  k5065 x5154))
  (k4881 ())
def F_ref6_CheckTracks_L1 (p0 : List Track) (k2074 : Unit → Option Int) : Int → Option Int := loopO fun k4122 g4118 =>
  letO (p0.length : Int) fun x4136 =>
  letO (decide (g4118 < x4136)) fun x4141 =>
  iteB x4141
  (joinO (fun _ =>
  letO (IntKind.i64.wrap (g4118 + 1)) fun x5232 =>
  k4122 x5232) fun k4643 =>
  bindO (at' p0 g4118) fun x4672 =>
  bindO (F_ref6_IsName x4672.Name) fun x4688 =>
  letO (!x4688) fun x4692 =>
  iteB x4692
  (some 8)
  (joinO (fun _ =>
  bindO (at' p0 g4118) fun x5184 =>
  bindO (F_ref5_Check x5184.Series) fun x5200 =>
  letO (decide (x5200 ≠ 0)) fun x5205 =>
  iteB x5205
  (some x5200)
  (bindO (at' p0 g4118) fun x5210 =>
  bindO (F_ref6_outside x5210.Long 0 1099511627776) fun x5226 =>
  iteB x5226
  (some 9)
  (k4643 ()))) fun k4881 =>
  F_ref6_CheckTracks_L2 p0 g4118 k4881 0))
  (k2074 ())
/-- orangebox/orangeboxref6.CheckTracks -/
def F_ref6_CheckTracks (p0 : List Track) : Option Int :=
  letO (p0.length : Int) fun x16 =>
  letO (decide (50 < x16)) fun x21 =>
  iteB x21
  (some 3)
  (joinO (fun _ =>
  some 0) fun k2074 =>
  F_ref6_CheckTracks_L1 p0 k2074 0)

/-- orangebox/orangeboxref9.CheckFlight -/
def F_ref9_CheckFlight (p0 : Flight) : Option Int :=
  bindO (letO (decide ((p0.Tail : Str) ≠ [])) fun x66 =>
  iteB x66
  (bindO (F_ref6_IsName p0.Tail) fun x70 =>
  letO (!x70) fun x74 =>
  iteB x74
  (some true)
  (bindO (F_ref6_IsName p0.Route) fun x78 =>
  letO (!x78) fun x82 =>
  some x82))
  (bindO (F_ref6_IsName p0.Route) fun x85 =>
  letO (!x85) fun x89 =>
  some x89)) fun g63 =>
  iteB g63
  (some 8)
  (bindO (bindO (F_ref9_outside p0.Day 0 1000000) fun x131 =>
  iteB x131
  (some true)
  (letO (decide (p0.From < 0)) fun x136 =>
  iteB x136
  (some true)
  (letO (decide (p0.To < p0.From)) fun x139 =>
  iteB x139
  (some true)
  (letO (decide (4194303 < p0.To)) fun x142 =>
  some x142)))) fun g127 =>
  iteB g127
  (some 9)
  (bindO (letO (IntKind.i64.wrap (p0.To - p0.From)) fun x183 =>
  letO (IntKind.i64.wrap (x183 + 1)) fun x185 =>
  letO (decide (20000 < x185)) fun x187 =>
  iteB x187
  (some true)
  (letO (p0.Tracks.length : Int) fun x190 =>
  letO (decide (30 < x190)) fun x195 =>
  some x195)) fun g180 =>
  iteB g180
  (some 3)
  (bindO (F_ref6_CheckTracks p0.Tracks) fun x201 =>
  some x201)))

def F_ref9_listFault_L1 (p0 : List Flight) (k182 : Unit → Option Int) : Int → Option Int := loopO fun k338 g334 =>
  letO (p0.length : Int) fun x352 =>
  letO (decide (g334 < x352)) fun x357 =>
  iteB x357
  (bindO (at' p0 g334) fun x388 =>
  bindO (F_ref9_CheckFlight x388) fun x404 =>
  letO (decide (x404 ≠ 0)) fun x409 =>
  iteB x409
  (some x404)
  (letO (IntKind.i64.wrap (g334 + 1)) fun x413 =>
  k338 x413))
  (k182 ())
/-- orangebox/orangeboxref9.listFault -/
def F_ref9_listFault (p0 : List Flight) : Option Int :=
  letO (p0.length : Int) fun x16 =>
  letO (decide (300 < x16)) fun x21 =>
  iteB x21
  (some 3)
  (joinO (fun _ =>
  some 0) fun k182 =>
  F_ref9_listFault_L1 p0 k182 0)

def F_ref9_twice_L1 (p0 : List Str) (p1 : Int) (k165 : Unit → Option Bool) : Int → Option Bool := loopO fun k325 g321 =>
  letO (decide (g321 < p1)) fun x334 =>
  iteB x334
  (bindO (at' p0 g321) fun x373 =>
  bindO (at' p0 p1) fun x385 =>
  letO (decide ((x373 : Str) = x385)) fun x397 =>
  iteB x397
  (some true)
  (letO (IntKind.i64.wrap (g321 + 1)) fun x402 =>
  k325 x402))
  (k165 ())
/-- orangebox/orangeboxref9.twice -/
def F_ref9_twice (p0 : List Str) (p1 : Int) : Option Bool :=
  joinO (fun _ =>
  some false) fun k165 =>
  F_ref9_twice_L1 p0 p1 k165 0

def F_ref9_CheckMask_L1 (p0 : Mask) (k312 : Unit → Option Int) : Int → Option Int := loopO fun k576 g572 =>
  letO (p0.Hide.length : Int) fun x590 =>
  letO (decide (g572 < x590)) fun x595 =>
  iteB x595
  (bindO (at' p0.Hide g572) fun x676 =>
  bindO (F_ref6_IsName x676) fun x689 =>
  letO (!x689) fun x693 =>
  iteB x693
  (some 8)
  (bindO (F_ref9_twice p0.Hide g572) fun x699 =>
  iteB x699
  (some 5)
  (letO (IntKind.i64.wrap (g572 + 1)) fun x705 =>
  k576 x705)))
  (k312 ())
def F_ref9_CheckMask_L2 (p0 : Mask) (k1196 : Unit → Option Int) : (List Str) × Int → Option Int := loopO fun k1665 ⟨g1658, g1660⟩ =>
  letO (p0.Grains.length : Int) fun x1679 =>
  letO (decide (g1660 < x1679)) fun x1684 =>
  iteB x1684
  (bindO (at' p0.Grains g1660) fun x1791 =>
  letO ([x1791.Track] : List Str) fun _ =>
  bindO (app' 16 g1658 ([x1791.Track] : List Str)) fun x1808 =>
  bindO (at' x1808 g1660) fun x1835 =>
  bindO (F_ref6_IsName x1835) fun x1847 =>
  letO (!x1847) fun x1851 =>
  iteB x1851
  (some 8)
  (bindO (F_ref9_twice x1808 g1660) fun x1866 =>
  iteB x1866
  (some 5)
  (bindO (at' p0.Grains g1660) fun x1873 =>
  bindO (F_ref9_outside x1873.N 1 1125899906842624) fun x1886 =>
  iteB x1886
  (some 9)
  (letO (IntKind.i64.wrap (g1660 + 1)) fun x1892 =>
  k1665 (x1808, x1892)))))
  (k1196 ())
/-- orangebox/orangeboxref9.CheckMask -/
def F_ref9_CheckMask (p0 : Mask) : Option Int :=
  bindO (F_ref9_outside p0.Days 1 1000000) fun x20 =>
  iteB x20
  (some 9)
  (letO (p0.Hide.length : Int) fun x38 =>
  letO (decide (30 < x38)) fun x43 =>
  iteB x43
  (some 3)
  (joinO (fun _ =>
  letO (p0.Grains.length : Int) fun x719 =>
  letO (decide (30 < x719)) fun x724 =>
  iteB x724
  (some 3)
  (joinO (fun _ =>
  bindO (F_ref9_outside p0.Least 1 1000) fun x1905 =>
  iteB x1905
  (some 9)
  (some 0)) fun k1196 =>
  F_ref9_CheckMask_L2 p0 k1196 ([], 0))) fun k312 =>
  F_ref9_CheckMask_L1 p0 k312 0))

/-- orangebox/orangeboxref9.peaksFault -/
def F_ref9_peaksFault (p0 : List Flight) (p1 : Mask) (p2 : Str) : Option Int :=
  bindO (F_ref9_listFault p0) fun x25 =>
  letO (decide (x25 ≠ 0)) fun x30 =>
  iteB x30
  (some x25)
  (bindO (F_ref9_CheckMask p1) fun x48 =>
  letO (decide (x48 ≠ 0)) fun x53 =>
  iteB x53
  (some x48)
  (bindO (F_ref6_IsName p2) fun x70 =>
  letO (!x70) fun x74 =>
  iteB x74
  (some 8)
  (some 0)))

/-- orangebox/orangeboxref9.floor -/
def F_ref9_floor (p0 : Int) (p1 : Int) : Option Int :=
  bindO (quo' .i64 p0 p1) fun x3 =>
  bindO (bindO (rem' p0 p1) fun x17 =>
  letO (decide (x17 < 0)) fun x19 =>
  iteB x19
  (letO (IntKind.i64.wrap (x3 - 1)) fun x22 =>
  some x22)
  (some x3)) fun g13 =>
  letO (IntKind.i64.wrap (g13 * p1)) fun x25 =>
  letO (max x25 (-1125899906842624) : Int) fun x27 =>
  some x27

def F_ref9_masked_L2 (p1 : Mask) (x6587 : Track) : Bool × Int → Option Bool := loopO fun k6825 ⟨g6820, g6821⟩ =>
  letO (p1.Hide.length : Int) fun x6839 =>
  letO (decide (g6821 < x6839)) fun x6844 =>
  iteB x6844
  (bindO (iteB g6820
  (some true)
  (bindO (at' p1.Hide g6821) fun x6873 =>
  letO (decide ((x6873 : Str) = x6587.Name)) fun x6885 =>
  some x6885)) fun g6866 =>
  letO (IntKind.i64.wrap (g6821 + 1)) fun x6888 =>
  k6825 (g6866, x6888))
  (some g6820)
def F_ref9_masked_L4 (p1 : Mask) (g8300 : Int) (g8302 : List Sample) : Int × (List Sample) → Option (List Sample) := loopO fun k9244 ⟨g9236, g9238⟩ =>
  letO (g8302.length : Int) fun x9258 =>
  letO (decide (g9236 < x9258)) fun x9263 =>
  iteB x9263
  (bindO (at' g8302 g9236) fun x9321 =>
  bindO (letO (decide (2 ≤ x9321.Mark)) fun x9364 =>
  iteB x9364
  (bindO (at' p1.Grains g8300) fun x9369 =>
  bindO (F_ref9_floor x9321.N x9369.N) fun x9382 =>
  some x9382)
  (some x9321.N)) fun g9360 =>
  letO ([Sample.mk x9321.At g9360 x9321.Mark] : List Sample) fun _ =>
  bindO (app' 24 g9238 ([Sample.mk x9321.At g9360 x9321.Mark] : List Sample)) fun x9391 =>
  letO (IntKind.i64.wrap (g9236 + 1)) fun x9396 =>
  k9244 (x9396, x9391))
  (some g9238)
def F_ref9_masked_L3 (p1 : Mask) (x6587 : Track) : Int × (List Sample) → Option (List Sample) := loopO fun k8307 ⟨g8300, g8302⟩ =>
  letO (p1.Grains.length : Int) fun x8321 =>
  letO (decide (g8300 < x8321)) fun x8326 =>
  iteB x8326
  (bindO (bindO (at' p1.Grains g8300) fun x8677 =>
  letO (decide ((x8677.Track : Str) ≠ x6587.Name)) fun x8689 =>
  iteB x8689
  (some g8302)
  (bindO (F_ref9_masked_L4 p1 g8300 g8302 (0, [])) fun g8969 =>
  some g8969)) fun g8650 =>
  letO (IntKind.i64.wrap (g8300 + 1)) fun x9399 =>
  k8307 (x9399, g8650))
  (some g8302)
def F_ref9_masked_L1 (p0 : Flight) (p1 : Mask) : Int × (List Track) → Option (List Track) := loopO fun k5705 ⟨g5697, g5699⟩ =>
  letO (p0.Tracks.length : Int) fun x5719 =>
  letO (decide (g5697 < x5719)) fun x5724 =>
  iteB x5724
  (bindO (bindO (at' p0.Tracks g5697) fun x6587 =>
  bindO (F_ref9_masked_L2 p1 x6587 (false, 0)) fun g6715 =>
  iteB g6715
  (some g5699)
  (bindO (F_ref9_masked_L3 p1 x6587 (0, x6587.Series.Samples)) fun g7599 =>
  letO ([Track.mk x6587.Name (Series.mk x6587.Series.Den g7599) x6587.Long] : List Track) fun _ =>
  bindO (app' 56 g5699 ([Track.mk x6587.Name (Series.mk x6587.Series.Den g7599) x6587.Long] : List Track)) fun x9406 =>
  some x9406)) fun g6582 =>
  letO (IntKind.i64.wrap (g5697 + 1)) fun x9411 =>
  k5705 (x9411, g6582))
  (some g5699)
/-- orangebox/orangeboxref9.masked -/
def F_ref9_masked (p0 : Flight) (p1 : Mask) : Option Flight :=
  bindO (iteB p1.Tails
  (some [])
  (some p0.Tail)) fun g26 =>
  bindO (quo' .i64 p0.Day p1.Days) fun x35 =>
  letO (IntKind.i64.wrap (x35 * p1.Days)) fun x37 =>
  bindO (F_ref9_masked_L1 p0 p1 (0, [])) fun g2872 =>
  some (Flight.mk g26 p0.Route x37 p0.From p0.To g2872)

def F_ref9_peak_L2 (p0 : Flight) (x1477 : Track) : Int × Bool × Int → Option (Int × Int × Bool) := loopO fun k1693 ⟨g1687, g1688, g1689⟩ =>
  letO (x1477.Series.Samples.length : Int) fun x1707 =>
  letO (decide (g1689 < x1707)) fun x1712 =>
  iteB x1712
  (bindO (bindO (at' x1477.Series.Samples g1689) fun x1788 =>
  bindO (letO (decide (x1788.Mark < 3)) fun x1844 =>
  iteB x1844
  (some true)
  (letO (IntKind.i64.wrap (64 * p0.From)) fun x1847 =>
  letO (decide (x1788.At < x1847)) fun x1849 =>
  iteB x1849
  (some true)
  (letO (IntKind.i64.wrap (64 * p0.To)) fun x1852 =>
  letO (IntKind.i64.wrap (x1852 + 64)) fun x1854 =>
  letO (IntKind.i64.wrap (x1854 - 1)) fun x1856 =>
  letO (decide (x1856 < x1788.At)) fun x1858 =>
  some x1858))) fun g1841 =>
  iteB g1841
  (some (g1687, g1688))
  (bindO (letO (!g1688) fun x1869 =>
  iteB x1869
  (some true)
  (letO (decide (g1687 < x1788.N)) fun x1872 =>
  some x1872)) fun g1866 =>
  iteB g1866
  (some (x1788.N, true))
  (some (g1687, g1688)))) fun ⟨g1782, g1783⟩ =>
  letO (IntKind.i64.wrap (g1689 + 1)) fun x1875 =>
  k1693 (g1782, g1783, x1875))
  (some (g1687, x1477.Series.Den, g1688))
def F_ref9_peak_L1 (p0 : Flight) (p1 : Str) : Int × Int × Bool × Int → Option (Int × Int × Bool) := loopO fun k1153 ⟨g1146, g1147, g1148, g1149⟩ =>
  letO (p0.Tracks.length : Int) fun x1167 =>
  letO (decide (g1149 < x1167)) fun x1172 =>
  iteB x1172
  (bindO (bindO (at' p0.Tracks g1149) fun x1458 =>
  letO (decide ((x1458.Name : Str) ≠ p1)) fun x1473 =>
  iteB x1473
  (some (g1146, g1147, g1148))
  (bindO (at' p0.Tracks g1149) fun x1477 =>
  F_ref9_peak_L2 p0 x1477 (g1146, g1148, 0))) fun ⟨g1431, g1432, g1433⟩ =>
  letO (IntKind.i64.wrap (g1149 + 1)) fun x1877 =>
  k1153 (g1431, g1432, g1433, x1877))
  (some (g1146, g1147, g1148))
/-- orangebox/orangeboxref9.peak -/
def F_ref9_peak (p0 : Flight) (p1 : Str) : Option (Int × Int × Bool) :=
  bindO (F_ref9_peak_L1 p0 p1 (0, 1, false, 0)) fun ⟨g577, g578, g579⟩ =>
  some (g577, g578, g579)

def F_ref9_peaks_L1 (p0 : List Flight) (p1 : Mask) (p2 : Str) : (List Int) × (List Int) × Int × Bool × Int → Option ((List Int) × (List Int) × Int × Bool) := loopO fun k471 ⟨g458, g461, g463, g464, g465⟩ =>
  letO (p0.length : Int) fun x485 =>
  letO (decide (g465 < x485)) fun x490 =>
  iteB x490
  (bindO (bindO (at' p0 g465) fun x574 =>
  bindO (F_ref9_masked x574 p1) fun x589 =>
  bindO (F_ref9_peak x589 p2) fun ⟨x596, x597, x598⟩ =>
  letO (!x598) fun x607 =>
  iteB x607
  (some (g458, g461, g463, g464))
  (letO ([x596] : List Int) fun _ =>
  bindO (app' 8 g458 ([x596] : List Int)) fun x616 =>
  letO ([g465] : List Int) fun _ =>
  bindO (app' 8 g461 ([g465] : List Int)) fun x626 =>
  bindO (letO (decide (g463 = 0)) fun x638 =>
  iteB x638
  (some x597)
  (some g463)) fun g634 =>
  iteB g464
  (letO (decide (g634 = x597)) fun x642 =>
  some (x616, x626, g634, x642))
  (some (x616, x626, g634, false)))) fun ⟨g562, g564, g566, g567⟩ =>
  letO (IntKind.i64.wrap (g465 + 1)) fun x644 =>
  k471 (g562, g564, g566, g567, x644))
  (some (g458, g461, g463, g464))
/-- orangebox/orangeboxref9.peaks -/
def F_ref9_peaks (p0 : List Flight) (p1 : Mask) (p2 : Str) : Option ((List Int) × (List Int) × Int × Int) :=
  bindO (F_ref9_peaks_L1 p0 p1 p2 ([], [], 0, true, 0)) fun ⟨g236, g239, g241, g242⟩ =>
  letO (g236.length : Int) fun x658 =>
  letO (decide (x658 < p1.Least)) fun x663 =>
  iteB x663
  (some ([], [], 0, 4))
  (letO (!g242) fun x676 =>
  iteB x676
  (some ([], [], 0, 2))
  (some (g236, g239, g241, 0)))

def F_ref9_sum_L1 (p0 : List Int) : Int × Int → Option Int := loopO fun k225 ⟨g220, g221⟩ =>
  letO (p0.length : Int) fun x239 =>
  letO (decide (g221 < x239)) fun x244 =>
  iteB x244
  (bindO (at' p0 g221) fun x262 =>
  letO (IntKind.i64.wrap (g220 + x262)) fun x274 =>
  letO (IntKind.i64.wrap (g221 + 1)) fun x276 =>
  k225 (x274, x276))
  (some g220)
/-- orangebox/orangeboxref9.sum -/
def F_ref9_sum (p0 : List Int) : Option Int :=
  bindO (F_ref9_sum_L1 p0 (0, 0)) fun g114 =>
  some g114

/-- orangebox/orangeboxref9.times -/
def F_ref9_times (p0 : Int) (p1 : Int) : Option Orangeboxref9Wide :=
  letO (decide (p0 < 0)) fun x6 =>
  letO (decide (p1 < 0)) fun x8 =>
  letO (!(x6 == x8)) fun x10 =>
  letO (IntKind.i64.wrap (-p0)) fun x13 =>
  letO (max p0 x13 : Int) fun x15 =>
  letO (IntKind.u64.wrap x15) fun x17 =>
  letO (IntKind.i64.wrap (-p1)) fun x19 =>
  letO (max p1 x19 : Int) fun x21 =>
  letO (IntKind.u64.wrap x21) fun x23 =>
  bindO (F_math_bits_Mul64 x17 x23) fun ⟨x26, x27⟩ =>
  some (Orangeboxref9Wide.mk x10 x26 x27)

/-- orangebox/orangeboxref9.plus -/
def F_ref9_plus (p0 : Orangeboxref9Wide) (p1 : Orangeboxref9Wide) : Option Orangeboxref9Wide :=
  letO (p0.neg == p1.neg) fun x27 =>
  iteB x27
  (bindO (X_Add64 p0.low p1.low 0) fun ⟨x31, x32⟩ =>
  bindO (X_Add64 p0.high p1.high x32) fun ⟨x35, x36⟩ =>
  some (Orangeboxref9Wide.mk p0.neg x35 x31))
  (bindO (bindO (letO (decide (p0.high < p1.high)) fun x74 =>
  iteB x74
  (some true)
  (letO (decide (p0.high = p1.high)) fun x77 =>
  iteB x77
  (letO (decide (p0.low < p1.low)) fun x80 =>
  some x80)
  (some false))) fun g71 =>
  iteB g71
  (some (p1.neg, p1.high, p1.low, p0.neg, p0.high, p0.low))
  (some (p0.neg, p0.high, p0.low, p1.neg, p1.high, p1.low))) fun ⟨g54, g55, g56, g57, g58, g59⟩ =>
  bindO (X_Sub64 g56 g59 0) fun ⟨x86, x87⟩ =>
  bindO (X_Sub64 g55 g58 x87) fun ⟨x90, x91⟩ =>
  some (Orangeboxref9Wide.mk g54 x90 x86))

/-- math/bits.LeadingZeros64 -/
def F_math_bits_LeadingZeros64 (p0 : Int) : Option Int :=
  bindO (X_Len64 p0) fun x4 =>
  letO (IntKind.i64.wrap (64 - x4)) fun x8 =>
  some x8

def F_math_bits_Div64_L1 (x57 : Int) (x60 : Int) (x75 : Int) : Int × Int → Option Int := loopO fun k270 ⟨g265, g266⟩ =>
  bindO (letO (decide (4294967296 ≤ g265)) fun x303 =>
  iteB x303
  (some true)
  (letO (IntKind.u64.wrap (g265 * x60)) fun x306 =>
  letO (IntKind.u64.wrap (4294967296 * g266)) fun x308 =>
  letO (IntKind.u64.wrap (x308 + x75)) fun x310 =>
  letO (decide (x310 < x306)) fun x312 =>
  some x312)) fun g300 =>
  iteB g300
  (letO (IntKind.u64.wrap (g265 - 1)) fun x316 =>
  letO (IntKind.u64.wrap (g266 + x57)) fun x319 =>
  letO (decide (4294967296 ≤ x319)) fun x322 =>
  iteB x322
  (some x316)
  (k270 (x316, x319)))
  (some g265)
def F_math_bits_Div64_L2 (x57 : Int) (x60 : Int) (x78 : Int) : Int × Int → Option Int := loopO fun k524 ⟨g519, g520⟩ =>
  bindO (letO (decide (4294967296 ≤ g520)) fun x557 =>
  iteB x557
  (some true)
  (letO (IntKind.u64.wrap (g520 * x60)) fun x560 =>
  letO (IntKind.u64.wrap (4294967296 * g519)) fun x562 =>
  letO (IntKind.u64.wrap (x562 + x78)) fun x564 =>
  letO (decide (x564 < x560)) fun x566 =>
  some x566)) fun g554 =>
  iteB g554
  (letO (IntKind.u64.wrap (g520 - 1)) fun x570 =>
  letO (IntKind.u64.wrap (g519 + x57)) fun x573 =>
  letO (decide (4294967296 ≤ x573)) fun x576 =>
  iteB x576
  (some x570)
  (k524 (x573, x570)))
  (some g520)
/-- math/bits.Div64 -/
def F_math_bits_Div64 (p0 : Int) (p1 : Int) (p2 : Int) : Option (Int × Int) :=
  letO (decide (p2 = 0)) fun x8 =>
  iteB x8
  (none)
  (letO (decide (p2 ≤ p0)) fun x17 =>
  iteB x17
  (none)
  (letO (decide (p0 = 0)) fun x34 =>
  iteB x34
  (bindO (quo' .u64 p1 p2) fun x40 =>
  bindO (rem' p1 p2) fun x42 =>
  some (x40, x42))
  (bindO (F_math_bits_LeadingZeros64 p2) fun x47 =>
  letO (IntKind.u64.wrap x47) fun x51 =>
  bindO (shl' .u64 p2 x51) fun x54 =>
  bindO (shr' .u64 x54 32) fun x57 =>
  letO (bits .and .u64 x54 4294967295) fun x60 =>
  bindO (shl' .u64 p0 x51) fun x63 =>
  letO (IntKind.u64.wrap (64 - x51)) fun x65 =>
  bindO (shr' .u64 p1 x65) fun x67 =>
  letO (bits .or .u64 x63 x67) fun x69 =>
  bindO (shl' .u64 p1 x51) fun x72 =>
  bindO (shr' .u64 x72 32) fun x75 =>
  letO (bits .and .u64 x72 4294967295) fun x78 =>
  bindO (quo' .u64 x69 x57) fun x81 =>
  letO (IntKind.u64.wrap (x81 * x57)) fun x84 =>
  letO (IntKind.u64.wrap (x69 - x84)) fun x86 =>
  bindO (F_math_bits_Div64_L1 x57 x60 x75 (x81, x86)) fun g178 =>
  letO (IntKind.u64.wrap (x69 * 4294967296)) fun x326 =>
  letO (IntKind.u64.wrap (x326 + x75)) fun x328 =>
  letO (IntKind.u64.wrap (g178 * x54)) fun x330 =>
  letO (IntKind.u64.wrap (x328 - x330)) fun x332 =>
  bindO (quo' .u64 x332 x57) fun x335 =>
  letO (IntKind.u64.wrap (x335 * x57)) fun x338 =>
  letO (IntKind.u64.wrap (x332 - x338)) fun x340 =>
  bindO (F_math_bits_Div64_L2 x57 x60 x78 (x340, x335)) fun g432 =>
  letO (IntKind.u64.wrap (g178 * 4294967296)) fun x580 =>
  letO (IntKind.u64.wrap (x580 + g432)) fun x582 =>
  letO (IntKind.u64.wrap (x332 * 4294967296)) fun x584 =>
  letO (IntKind.u64.wrap (x584 + x78)) fun x586 =>
  letO (IntKind.u64.wrap (g432 * x54)) fun x588 =>
  letO (IntKind.u64.wrap (x586 - x588)) fun x590 =>
  bindO (shr' .u64 x590 x51) fun x592 =>
  some (x582, x592))))

def F_ref9_ratio_L1 : Int × Int → Option Int := loopO fun k123 ⟨g118, g119⟩ =>
  letO (decide (g119 ≠ 0)) fun x132 =>
  iteB x132
  (bindO (rem' g118 g119) fun x137 =>
  k123 (g119, x137))
  (some g118)
/-- orangebox/orangeboxref9.ratio -/
def F_ref9_ratio (p0 : Orangeboxref9Wide) (p1 : Int) : Option (Ratio × Bool) :=
  bindO (letO (decide (p0.high = 0)) fun x28 =>
  iteB x28
  (letO (decide (p0.low = 0)) fun x31 =>
  some x31)
  (some false)) fun g25 =>
  iteB g25
  (some (Ratio.mk 0 1, true))
  (bindO (rem' p0.high p1) fun x39 =>
  bindO (F_math_bits_Div64 x39 p0.low p1) fun ⟨x42, x43⟩ =>
  bindO (F_ref9_ratio_L1 (p1, x43)) fun g84 =>
  bindO (quo' .u64 p0.high g84) fun x141 =>
  bindO (rem' p0.high g84) fun x146 =>
  bindO (F_math_bits_Div64 x146 p0.low g84) fun ⟨x149, x150⟩ =>
  bindO (quo' .u64 p1 g84) fun x154 =>
  bindO (letO (decide (x141 ≠ 0)) fun x182 =>
  iteB x182
  (some true)
  (letO (decide (4611686018427387904 < x149)) fun x185 =>
  iteB x185
  (some true)
  (letO (decide (4611686018427387904 < x154)) fun x188 =>
  some x188))) fun g179 =>
  iteB g179
  (some (Ratio.mk 0 0, false))
  (letO (IntKind.i64.wrap x149) fun x194 =>
  bindO (iteB p0.neg
  (letO (IntKind.i64.wrap (-x194)) fun x205 =>
  some x205)
  (some x194)) fun g200 =>
  letO (IntKind.i64.wrap x154) fun x208 =>
  some (Ratio.mk g200 x208, true)))

/-- orangebox/orangeboxref9.told -/
def F_ref9_told (p0 : Orangeboxref9Wide) (p1 : Int) : Option (Ratio × Int) :=
  bindO (F_ref9_ratio p0 p1) fun ⟨x10, x11⟩ =>
  letO (!x11) fun x27 =>
  iteB x27
  (some (Ratio.mk 0 0, 3))
  (some (x10, 0))

/-- orangebox/orangeboxref9.Apart -/
def F_ref9_Apart (p0 : List Flight) (p1 : List Flight) (p2 : Mask) (p3 : Str) : Option (Ratio × Int) :=
  bindO (F_ref9_listFault p0) fun x31 =>
  letO (decide (x31 ≠ 0)) fun x36 =>
  iteB x36
  (some (Ratio.mk 0 0, x31))
  (bindO (F_ref9_peaksFault p1 p2 p3) fun x56 =>
  letO (decide (x56 ≠ 0)) fun x61 =>
  iteB x61
  (some (Ratio.mk 0 0, x56))
  (bindO (F_ref9_peaks p0 p2 p3) fun ⟨x67, x68, x69, x70⟩ =>
  bindO (F_ref9_peaks p1 p2 p3) fun ⟨x79, x80, x81, x82⟩ =>
  bindO (letO (decide (x70 = 4)) fun x110 =>
  iteB x110
  (some true)
  (letO (decide (x82 = 4)) fun x113 =>
  some x113)) fun g107 =>
  iteB g107
  (some (Ratio.mk 0 0, 4))
  (bindO (letO (decide (x70 ≠ 0)) fun x144 =>
  iteB x144
  (some true)
  (letO (decide (x82 ≠ 0)) fun x147 =>
  iteB x147
  (some true)
  (letO (decide (x69 ≠ x81)) fun x150 =>
  some x150))) fun g141 =>
  iteB g141
  (some (Ratio.mk 0 0, 2))
  (bindO (F_ref9_sum x67) fun x157 =>
  letO (x79.length : Int) fun x161 =>
  bindO (F_ref9_times x157 x161) fun x167 =>
  bindO (F_ref9_sum x79) fun x172 =>
  letO (IntKind.i64.wrap (-x172)) fun x176 =>
  letO (x67.length : Int) fun x178 =>
  bindO (F_ref9_times x176 x178) fun x184 =>
  bindO (F_ref9_plus x167 x184) fun x189 =>
  letO (x67.length : Int) fun x198 =>
  letO (x79.length : Int) fun x203 =>
  letO (IntKind.i64.wrap (x198 * x203)) fun x208 =>
  letO (IntKind.u64.wrap x208) fun x210 =>
  bindO (F_ref9_told x189 x210) fun ⟨x213, x214⟩ =>
  some (x213, x214)))))

/-- slices.Clone[[]int,int] -/
def F_slices_Clone___int_int_ (p0 : List Int) : Option (List Int) :=
  nilO p0 fun x18 =>
  iteB x18
  (some [])
  (bindO (app' 8 ([] : List Int) p0) fun x27 =>
  some x27)

/-- orangebox/fleet.quantile -/
def F_fleet_quantile (p0 : List Int) (p1 : Int) (p2 : Int) : Option Int :=
  bindO (F_slices_Clone___int_int_ p0) fun x5 =>
  bindO (X_Sort x5) fun x12 =>
  letO (x12.length : Int) fun x17 =>
  letO (IntKind.i64.wrap (p1 * x17)) fun x22 =>
  letO (IntKind.i64.wrap (x22 + p2)) fun x24 =>
  letO (IntKind.i64.wrap (x24 - 1)) fun x26 =>
  bindO (quo' .i64 x26 p2) fun x28 =>
  letO (max x28 1 : Int) fun x31 =>
  letO (IntKind.i64.wrap (x31 - 1)) fun x33 =>
  bindO (at' x12 x33) fun x35 =>
  some x35

def F_fleet_Odd_L1 (x79 : Int) (x257 : FleetPeaks) (x275 : Int) : (List Int) × Int → Option (List Int) := loopO fun k424 ⟨g417, g419⟩ =>
  letO (decide (g419 < x275)) fun x428 =>
  iteB x428
  (bindO (at' x257.l g419) fun x463 =>
  letO (IntKind.i64.wrap (x463 - x79)) fun x475 =>
  letO (IntKind.i64.wrap (x79 - x463)) fun x477 =>
  letO (max x475 x477 : Int) fun x479 =>
  letO ([x479] : List Int) fun _ =>
  bindO (app' 8 g417 ([x479] : List Int)) fun x486 =>
  letO (IntKind.i64.wrap (g419 + 1)) fun x490 =>
  k424 (x486, x490))
  (some g417)
def F_fleet_Odd_L2 (x18 : List FleetPeaks) (g252 : List Int) (x498 : Int) (x660 : Int) : (List Int) × Int → Option (List Int) := loopO fun k813 ⟨g806, g808⟩ =>
  letO (decide (g808 < x660)) fun x817 =>
  iteB x817
  (bindO (bindO (at' g252 g808) fun x882 =>
  letO (decide (x498 < x882)) fun x894 =>
  iteB x894
  (bindO (at' x18 0) fun x897 =>
  bindO (at' x897.flights g808) fun x915 =>
  letO ([x915] : List Int) fun _ =>
  bindO (app' 8 g806 ([x915] : List Int)) fun x932 =>
  some x932)
  (some g806)) fun g877 =>
  letO (IntKind.i64.wrap (g808 + 1)) fun x936 =>
  k813 (g877, x936))
  (some g806)
/-- orangebox/fleet.Odd -/
def F_fleet_Odd (p0 : List Flight) (p1 : Mask) (p2 : Str) (p3 : Int) : Option ((List Int) × Int) :=
  letO ([p0] : List (List Flight)) fun _ =>
  bindO (F_fleet_peaksOf ([p0] : List (List Flight)) p1 p2) fun ⟨x18, x19⟩ =>
  letO (decide (x19 ≠ 0)) fun x32 =>
  iteB x32
  (some ([], x19))
  (bindO (F_fleet_within p3 1 1000) fun x50 =>
  letO (!x50) fun x54 =>
  iteB x54
  (some ([], 9))
  (bindO (at' x18 0) fun x60 =>
  bindO (F_fleet_quantile x60.l 1 2) fun x79 =>
  bindO (bindO (at' x18 0) fun x257 =>
  letO (x257.l.length : Int) fun x275 =>
  F_fleet_Odd_L1 x79 x257 x275 ([], 0)) fun g252 =>
  bindO (F_fleet_quantile g252 1 2) fun x494 =>
  letO (IntKind.i64.wrap (p3 * x494)) fun x498 =>
  bindO (letO (g252.length : Int) fun x660 =>
  F_fleet_Odd_L2 x18 g252 x498 x660 ([], 0)) fun g655 =>
  some (g655, 0)))

/-- internal/strconv.AppendInt -/
def F_internal_strconv_AppendInt (p0 : List Int) (p1 : Int) (p2 : Int) : Option (List Int) :=
  letO (IntKind.u64.wrap p1) fun x7 =>
  bindO (letO (decide (p1 < 0)) fun x32 =>
  iteB x32
  (letO ([45] : List Int) fun _ =>
  bindO (app' 1 p0 ([45] : List Int)) fun x41 =>
  letO (IntKind.u64.wrap (-x7)) fun x45 =>
  some (x41, x45))
  (some (p0, x7))) fun ⟨g25, g27⟩ =>
  bindO (X_AppendUint g25 g27 p2) fun x48 =>
  some x48

/-- strconv.AppendInt -/
def F_strconv_AppendInt (p0 : List Int) (p1 : Int) (p2 : Int) : Option (List Int) :=
  bindO (F_internal_strconv_AppendInt p0 p1 p2) fun x7 =>
  some x7

/-- (*orangebox/orangeboxref0.Ink).Int -/
def F_ref0_Ink_Int (p0 : Orangeboxref0Ink) (p1 : Int) : Option Orangeboxref0Ink :=
  bindO (F_strconv_AppendInt p0.out p1 10) fun x8 =>
  letO ([32] : List Int) fun _ =>
  bindO (app' 1 x8 ([32] : List Int)) fun x20 =>
  some (Orangeboxref0Ink.mk x20)

def F_ref0_Ink_Ints_L1 (p1 : List Int) : Int × (List Int) → Option Orangeboxref0Ink := loopO fun k149 ⟨g142, g144⟩ =>
  letO (p1.length : Int) fun x163 =>
  letO (decide (g142 < x163)) fun x168 =>
  iteB x168
  (bindO (at' p1 g142) fun x190 =>
  bindO (F_ref0_Ink_Int (Orangeboxref0Ink.mk g144) x190) fun x202 =>
  letO (IntKind.i64.wrap (g142 + 1)) fun x208 =>
  k149 (x208, x202.out))
  (some (Orangeboxref0Ink.mk g144))
/-- (*orangebox/orangeboxref0.Ink).Ints -/
def F_ref0_Ink_Ints (p0 : Orangeboxref0Ink) (p1 : List Int) : Option Orangeboxref0Ink :=
  letO (p1.length : Int) fun x10 =>
  bindO (F_ref0_Ink_Int p0 x10) fun x15 =>
  F_ref0_Ink_Ints_L1 p1 (0, x15.out)

def F_ref0_Ink_Lists_L1 (p1 : List (List Int)) : Int × (List Int) → Option Orangeboxref0Ink := loopO fun k161 ⟨g154, g156⟩ =>
  letO (p1.length : Int) fun x175 =>
  letO (decide (g154 < x175)) fun x180 =>
  iteB x180
  (bindO (at' p1 g154) fun x205 =>
  bindO (F_ref0_Ink_Ints (Orangeboxref0Ink.mk g156) x205) fun x220 =>
  letO (IntKind.i64.wrap (g154 + 1)) fun x226 =>
  k161 (x226, x220.out))
  (some (Orangeboxref0Ink.mk g156))
/-- (*orangebox/orangeboxref0.Ink).Lists -/
def F_ref0_Ink_Lists (p0 : Orangeboxref0Ink) (p1 : List (List Int)) : Option Orangeboxref0Ink :=
  letO (p1.length : Int) fun x10 =>
  bindO (F_ref0_Ink_Int p0 x10) fun x15 =>
  F_ref0_Ink_Lists_L1 p1 (0, x15.out)

/-- (*orangebox/orangeboxref0.Ink).Errno -/
def F_ref0_Ink_Errno (p0 : Orangeboxref0Ink) (p1 : Int) : Option Orangeboxref0Ink :=
  bindO (F_ref0_Ink_Int p0 p1) fun x7 =>
  some x7

/-- (*orangebox/orangeboxref0.Ink).Told -/
def F_ref0_Ink_Told (p0 : Option Orangeboxref0Ink) : Option Str :=
  bindO p0 fun x5 =>
  letO (str' x5.out) fun x19 =>
  some x19

/-- orangebox/orangeboxlaw9.lists -/
def F_law9_lists (p0 : List (List Int)) (p1 : Int) : Option Str :=
  bindO (F_ref0_Ink_Lists (Orangeboxref0Ink.mk []) p0) fun x11 =>
  bindO (F_ref0_Ink_Errno x11 p1) fun x18 =>
  bindO (F_ref0_Ink_Told (some x18)) fun x27 =>
  some x27

/-- orangebox/orangeboxlaw9.ints -/
def F_law9_ints (p0 : List Int) (p1 : Int) : Option Str :=
  letO ([p0] : List (List Int)) fun _ =>
  bindO (F_law9_lists ([p0] : List (List Int)) p1) fun x12 =>
  some x12

def F_ref5_Sorted_L2 : Int × (List Int) → Option (List Int) := loopO fun k2509 ⟨g2504, g2505⟩ =>
  bindO (letO (decide (0 < g2504)) fun x2588 =>
  iteB x2588
  (bindO (at' g2505 g2504) fun x2591 =>
  letO (IntKind.i64.wrap (g2504 - 1)) fun x2602 =>
  bindO (at' g2505 x2602) fun x2604 =>
  letO (decide (x2591 < x2604)) fun x2615 =>
  some x2615)
  (some false)) fun g2583 =>
  iteB g2583
  (letO (IntKind.i64.wrap (g2504 - 1)) fun x2680 =>
  letO (IntKind.i64.wrap (g2504 - 1)) fun x2682 =>
  bindO (at' g2505 x2682) fun x2684 =>
  bindO (at' g2505 g2504) fun x2695 =>
  bindO (at' g2505 g2504) fun x2706 =>
  bindO (set' g2505 g2504 x2684) fun x2717 =>
  bindO (at' x2717 x2680) fun x2720 =>
  bindO (set' x2717 x2680 x2695) fun x2731 =>
  letO (IntKind.i64.wrap (g2504 - 1)) fun x2735 =>
  k2509 (x2735, x2731))
  (some g2505)
def F_ref5_Sorted_L1 : Int × (List Int) → Option (List Int) := loopO fun k1699 ⟨g1694, g1695⟩ =>
  letO (g1695.length : Int) fun x1713 =>
  letO (decide (g1694 < x1713)) fun x1718 =>
  iteB x1718
  (bindO (F_ref5_Sorted_L2 (g1694, g1695)) fun g2114 =>
  letO (IntKind.i64.wrap (g1694 + 1)) fun x2737 =>
  k1699 (x2737, g2114))
  (some g1695)
/-- orangebox/orangeboxref5.Sorted -/
def F_ref5_Sorted (p0 : List Int) : Option (List Int) :=
  bindO (app' 8 ([] : List Int) p0) fun x7 =>
  bindO (F_ref5_Sorted_L1 (1, x7)) fun g854 =>
  some g854

/-- orangebox/orangeboxref9.ranked -/
def F_ref9_ranked (p0 : List Int) (p1 : Int) (p2 : Int) : Option Int :=
  letO (p0.length : Int) fun x5 =>
  letO (IntKind.i64.wrap (x5 * p1)) fun x10 =>
  letO (IntKind.i64.wrap (x10 + p2)) fun x12 =>
  letO (IntKind.i64.wrap (x12 - 1)) fun x14 =>
  bindO (quo' .i64 x14 p2) fun x16 =>
  bindO (F_ref5_Sorted p0) fun x19 =>
  letO (max x16 1 : Int) fun x25 =>
  letO (IntKind.i64.wrap (x25 - 1)) fun x27 =>
  bindO (at' x19 x27) fun x29 =>
  some x29

def F_ref9_Odd_L1 (x37 : List Int) (x80 : Int) : (List Int) × Int → Option (List Int) := loopO fun k527 ⟨g520, g522⟩ =>
  letO (x37.length : Int) fun x541 =>
  letO (decide (g522 < x541)) fun x546 =>
  iteB x546
  (bindO (at' x37 g522) fun x592 =>
  letO (IntKind.i64.wrap (x592 - x80)) fun x603 =>
  bindO (at' x37 g522) fun x605 =>
  letO (IntKind.i64.wrap (x80 - x605)) fun x616 =>
  letO (max x603 x616 : Int) fun x618 =>
  letO ([x618] : List Int) fun _ =>
  bindO (app' 8 g520 ([x618] : List Int)) fun x625 =>
  letO (IntKind.i64.wrap (g522 + 1)) fun x630 =>
  k527 (x625, x630))
  (some g520)
def F_ref9_Odd_L2 (x37 : List Int) (x38 : List Int) (g304 : List Int) (x638 : Int) : (List Int) × Int → Option (List Int) := loopO fun k915 ⟨g908, g910⟩ =>
  letO (x37.length : Int) fun x929 =>
  letO (decide (g910 < x929)) fun x934 =>
  iteB x934
  (bindO (bindO (at' g304 g910) fun x977 =>
  letO (decide (x638 < x977)) fun x988 =>
  iteB x988
  (bindO (at' x38 g910) fun x991 =>
  letO ([x991] : List Int) fun _ =>
  bindO (app' 8 g908 ([x991] : List Int)) fun x1007 =>
  some x1007)
  (some g908)) fun g972 =>
  letO (IntKind.i64.wrap (g910 + 1)) fun x1011 =>
  k915 (g972, x1011))
  (some g908)
/-- orangebox/orangeboxref9.Odd -/
def F_ref9_Odd (p0 : List Flight) (p1 : Mask) (p2 : Str) (p3 : Int) : Option ((List Int) × Int) :=
  bindO (F_ref9_peaksFault p0 p1 p2) fun x26 =>
  letO (decide (x26 ≠ 0)) fun x31 =>
  iteB x31
  (some ([], x26))
  (bindO (F_ref9_peaks p0 p1 p2) fun ⟨x37, x38, x39, x40⟩ =>
  letO (decide (x40 ≠ 0)) fun x55 =>
  iteB x55
  (some ([], x40))
  (bindO (F_ref9_outside p3 1 1000) fun x71 =>
  iteB x71
  (some ([], 9))
  (bindO (F_ref9_ranked x37 1 2) fun x80 =>
  bindO (F_ref9_Odd_L1 x37 x80 ([], 0)) fun g304 =>
  bindO (F_ref9_ranked g304 1 2) fun x634 =>
  letO (IntKind.i64.wrap (p3 * x634)) fun x638 =>
  bindO (F_ref9_Odd_L2 x37 x38 g304 x638 ([], 0)) fun g776 =>
  some (g776, 0))))

/-- orangebox/fleet.CheckTable$1 -/
def F_fleet_CheckTable_1 (p0 : FleetRow) : Option Bool :=
  letO (!p0.Hidden) fun x8 =>
  some x8

def F_slices_IndexFunc___api_FleetRow_api_FleetRow__fleet_CheckTable_1_L1 (p0 : List FleetRow) (k132 : Unit → Option Int) (x135 : Int) : Int → Option Int := loopO fun k259 g255 =>
  letO (decide (g255 < x135)) fun x263 =>
  iteB x263
  (bindO (at' p0 g255) fun x295 =>
  bindO (F_fleet_CheckTable_1 x295) fun x311 =>
  iteB x311
  (some g255)
  (letO (IntKind.i64.wrap (g255 + 1)) fun x317 =>
  k259 x317))
  (k132 ())
/-- slices.IndexFunc[[]orangebox/api.FleetRow,orangebox/api.FleetRow]@orangebox/fleet.CheckTable$1 -/
def F_slices_IndexFunc___api_FleetRow_api_FleetRow__fleet_CheckTable_1 (p0 : List FleetRow) : Option Int :=
  joinO (fun _ =>
  some (-1)) fun k132 =>
  letO (p0.length : Int) fun x135 =>
  F_slices_IndexFunc___api_FleetRow_api_FleetRow__fleet_CheckTable_1_L1 p0 k132 x135 0

/-- orangebox/fleet.CheckTable$3 -/
def F_fleet_CheckTable_3 (p0 : FleetRow) (c0 : FleetRow) : Option Bool :=
  letO (decide ((p0.Key : Str) = c0.Key)) fun x12 =>
  some x12

def F_slices_IndexFunc___api_FleetRow_api_FleetRow__fleet_CheckTable_3_L1 (p0 : List FleetRow) (p1c0 : FleetRow) (k132 : Unit → Option Int) (x135 : Int) : Int → Option Int := loopO fun k255 g251 =>
  letO (decide (g251 < x135)) fun x259 =>
  iteB x259
  (bindO (at' p0 g251) fun x290 =>
  bindO (F_fleet_CheckTable_3 x290 p1c0) fun x305 =>
  iteB x305
  (some g251)
  (letO (IntKind.i64.wrap (g251 + 1)) fun x311 =>
  k255 x311))
  (k132 ())
/-- slices.IndexFunc[[]orangebox/api.FleetRow,orangebox/api.FleetRow]@orangebox/fleet.CheckTable$3 -/
def F_slices_IndexFunc___api_FleetRow_api_FleetRow__fleet_CheckTable_3 (p0 : List FleetRow) (p1c0 : FleetRow) : Option Int :=
  joinO (fun _ =>
  some (-1)) fun k132 =>
  letO (p0.length : Int) fun x135 =>
  F_slices_IndexFunc___api_FleetRow_api_FleetRow__fleet_CheckTable_3_L1 p0 p1c0 k132 x135 0

/-- slices.ContainsFunc[[]orangebox/api.FleetRow,orangebox/api.FleetRow]@orangebox/fleet.CheckTable$3 -/
def F_slices_ContainsFunc___api_FleetRow_api_FleetRow__fleet_CheckTable_3 (p0 : List FleetRow) (p1c0 : FleetRow) : Option Bool :=
  bindO (F_slices_IndexFunc___api_FleetRow_api_FleetRow__fleet_CheckTable_3 p0 p1c0) fun x9 =>
  letO (decide (0 ≤ x9)) fun x13 =>
  some x13

/-- orangebox/fleet.CheckTable$2 -/
def F_fleet_CheckTable_2 (p0 : Int) : Option Bool :=
  bindO (F_fleet_within p0 0 1000000000) fun x4 =>
  letO (!x4) fun x8 =>
  some x8

def F_slices_IndexFunc___int_int__fleet_CheckTable_2_L1 (p0 : List Int) (k120 : Unit → Option Int) (x123 : Int) : Int → Option Int := loopO fun k235 g231 =>
  letO (decide (g231 < x123)) fun x239 =>
  iteB x239
  (bindO (at' p0 g231) fun x268 =>
  bindO (F_fleet_CheckTable_2 x268) fun x281 =>
  iteB x281
  (some g231)
  (letO (IntKind.i64.wrap (g231 + 1)) fun x287 =>
  k235 x287))
  (k120 ())
/-- slices.IndexFunc[[]int,int]@orangebox/fleet.CheckTable$2 -/
def F_slices_IndexFunc___int_int__fleet_CheckTable_2 (p0 : List Int) : Option Int :=
  joinO (fun _ =>
  some (-1)) fun k120 =>
  letO (p0.length : Int) fun x123 =>
  F_slices_IndexFunc___int_int__fleet_CheckTable_2_L1 p0 k120 x123 0

/-- slices.ContainsFunc[[]int,int]@orangebox/fleet.CheckTable$2 -/
def F_slices_ContainsFunc___int_int__fleet_CheckTable_2 (p0 : List Int) : Option Bool :=
  bindO (F_slices_IndexFunc___int_int__fleet_CheckTable_2 p0) fun x6 =>
  letO (decide (0 ≤ x6)) fun x10 =>
  some x10

def F_fleet_CheckTable_L1 (p0 : List FleetRow) (x27 : Int) (k476 : Unit → Option Int) (x479 : Int) : Int → Option Int := loopO fun k919 g915 =>
  letO (decide (g915 < x479)) fun x923 =>
  iteB x923
  (bindO (at' p0 g915) fun x1033 =>
  bindO (sub' p0 0 g915) fun x1053 =>
  bindO (F_slices_ContainsFunc___api_FleetRow_api_FleetRow__fleet_CheckTable_3 x1053 x1033) fun x1058 =>
  iteB x1058
  (some 5)
  (bindO (iteB x1033.Hidden
  (letO (decide (x1033.Flights ≠ 0)) fun x1079 =>
  iteB x1079
  (some true)
  (letO (x1033.Events.length : Int) fun x1082 =>
  letO (decide (0 < x1082)) fun x1087 =>
  some x1087))
  (some false)) fun g1075 =>
  iteB g1075
  (some 2)
  (bindO (bindO (F_fleet_CheckTable_2 x1033.Flights) fun x1106 =>
  iteB x1106
  (some true)
  (bindO (F_slices_ContainsFunc___int_int__fleet_CheckTable_2 x1033.Events) fun x1112 =>
  some x1112)) fun g1102 =>
  iteB g1102
  (some 9)
  (bindO (letO (!x1033.Hidden) fun x1157 =>
  iteB x1157
  (letO (x1033.Events.length : Int) fun x1160 =>
  bindO (at' p0 x27) fun x1165 =>
  letO (x1165.Events.length : Int) fun x1180 =>
  letO (decide (x1160 ≠ x1180)) fun x1185 =>
  some x1185)
  (some false)) fun g1152 =>
  iteB g1152
  (some 2)
  (letO (IntKind.i64.wrap (g915 + 1)) fun x1191 =>
  k919 x1191)))))
  (k476 ())
/-- orangebox/fleet.CheckTable -/
def F_fleet_CheckTable (p0 : List FleetRow) : Option Int :=
  letO (p0.length : Int) fun x16 =>
  letO (decide (300 < x16)) fun x21 =>
  iteB x21
  (some 3)
  (bindO (F_slices_IndexFunc___api_FleetRow_api_FleetRow__fleet_CheckTable_1 p0) fun x27 =>
  joinO (fun _ =>
  some 0) fun k476 =>
  letO (p0.length : Int) fun x479 =>
  F_fleet_CheckTable_L1 p0 x27 k476 x479 0)

def F_fleet_Total_L2 (x1421 : FleetRow) (g1466 : Bool) (x1490 : Int) (x1494 : Int) : Int × (List Int) → Option (Int × (List Int) × Bool) := loopO fun k1684 ⟨g1679, g1680⟩ =>
  letO (decide (g1679 < x1494)) fun x1688 =>
  iteB x1688
  (bindO (at' x1421.Events g1679) fun x1735 =>
  bindO (at' g1680 g1679) fun x1747 =>
  letO (IntKind.i64.wrap (x1747 + x1735)) fun x1758 =>
  bindO (at' g1680 g1679) fun x1760 =>
  bindO (set' g1680 g1679 x1758) fun x1771 =>
  letO (IntKind.i64.wrap (g1679 + 1)) fun x1774 =>
  k1684 (x1774, x1771))
  (some (x1490, g1680, g1466))
def F_fleet_Total_L1 (p0 : List FleetRow) (x600 : Int) : Int × Int × (List Int) × Bool → Option (Int × (List Int) × Bool) := loopO fun k1155 ⟨g1143, g1144, g1146, g1148⟩ =>
  letO (decide (g1143 < x600)) fun x1159 =>
  iteB x1159
  (bindO (bindO (at' p0 g1143) fun x1421 =>
  iteB x1421.Hidden
  (some (g1144, g1146, g1148))
  (bindO (iteB g1148
  (letO (x1421.Events.length : Int) fun x1476 =>
  bindO (make' 8 x1476 (0 : Int)) fun x1481 =>
  some (x1481, false))
  (some (g1146, g1148))) fun ⟨g1464, g1466⟩ =>
  letO (IntKind.i64.wrap (g1144 + x1421.Flights)) fun x1490 =>
  letO (x1421.Events.length : Int) fun x1494 =>
  F_fleet_Total_L2 x1421 g1466 x1490 x1494 (0, g1464))) fun ⟨g1411, g1413, g1415⟩ =>
  letO (IntKind.i64.wrap (g1143 + 1)) fun x1776 =>
  k1155 (x1776, g1411, g1413, g1415))
  (some (g1144, g1146, g1148))
/-- orangebox/fleet.Total -/
def F_fleet_Total (p0 : List FleetRow) : Option (FleetRow × Int) :=
  bindO (F_fleet_CheckTable p0) fun x23 =>
  letO (decide (x23 ≠ 0)) fun x28 =>
  iteB x28
  (some (FleetRow.mk [] false 0 [], x23))
  (bindO (letO (p0.length : Int) fun x600 =>
  F_fleet_Total_L1 p0 x600 (0, 0, [], true)) fun ⟨g590, g592, g594⟩ =>
  some (FleetRow.mk [] false g590 g592, 0))

/-- orangebox/orangeboxlaw9.totals -/
def F_law9_totals : Option Bool :=
  letO ([1] : List Int) fun _ =>
  letO ([4] : List Int) fun _ =>
  letO ([FleetRow.mk [97] false 2 ([1] : List Int), FleetRow.mk [98] false 3 ([4] : List Int)] : List FleetRow) fun _ =>
  bindO (F_fleet_Total ([FleetRow.mk [97] false 2 ([1] : List Int), FleetRow.mk [98] false 3 ([4] : List Int)] : List FleetRow)) fun ⟨x24, x25⟩ =>
  bindO (letO (decide (x25 = 0)) fun x66 =>
  iteB x66
  (letO (decide (x24.Flights = 5)) fun x69 =>
  iteB x69
  (letO (x24.Events.length : Int) fun x72 =>
  letO (decide (x72 = 1)) fun x77 =>
  iteB x77
  (bindO (at' x24.Events 0) fun x80 =>
  letO (decide (x80 = 5)) fun x92 =>
  some x92)
  (some false))
  (some false))
  (some false)) fun g63 =>
  some g63

/-- orangebox/orangeboxlaw9.FleetApartMatchesSpec -/
def F_law9_FleetApartMatchesSpec (p0 : List Flight) (p1 : List Flight) (p2 : Mask) (p3 : Str) (p4 : Int) : Option Bool :=
  bindO (F_fleet_Apart p0 p1 p2 p3) fun ⟨x16, x17⟩ =>
  bindO (F_ref9_Apart p0 p1 p2 p3) fun ⟨x27, x28⟩ =>
  bindO (letO (!decide ((x16 : Ratio) = x27)) fun x55 =>
  iteB x55
  (some true)
  (letO (decide (x17 ≠ x28)) fun x58 =>
  some x58)) fun g52 =>
  iteB g52
  (some false)
  (joinO (fun _ =>
  bindO (bindO (F_fleet_Odd p0 p2 p3 p4) fun ⟨x170, x171⟩ =>
  bindO (F_law9_ints x170 x171) fun x178 =>
  bindO (F_ref9_Odd p0 p2 p3 p4) fun ⟨x180, x181⟩ =>
  bindO (F_law9_ints x180 x181) fun x188 =>
  letO (decide ((x178 : Str) = x188)) fun x190 =>
  iteB x190
  (bindO (F_law9_totals) fun x194 =>
  some x194)
  (some false)) fun g165 =>
  some g165) fun k93 =>
  letO (decide (x17 = 0)) fun x96 =>
  iteB x96
  (bindO (F_fleet_Apart p1 p0 p2 p3) fun ⟨x101, x102⟩ =>
  bindO (letO (decide (x102 ≠ 0)) fun x123 =>
  iteB x123
  (some true)
  (letO (IntKind.i64.wrap (-x16.Num)) fun x126 =>
  letO (decide (x101.Num ≠ x126)) fun x128 =>
  iteB x128
  (some true)
  (letO (decide (x101.Den ≠ x16.Den)) fun x131 =>
  some x131))) fun g120 =>
  iteB g120
  (some false)
  (k93 ()))
  (k93 ()))
end Go.Lf
