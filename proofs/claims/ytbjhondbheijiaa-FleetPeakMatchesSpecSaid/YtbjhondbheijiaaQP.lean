/- Plain functions: what the code computes. -/
import Derived.Test.YtbjhondbheijiaaQTy
namespace Go.Lf
open Go.RowKit Go.OB
/-- orangebox/event.within -/
def F_event_within (p0 : Int) (p1 : Int) (p2 : Int) : Option Bool :=
  bindO (letO (decide (p1 ≤ p0)) fun x10 =>
  iteB x10
  (letO (decide (p0 ≤ p2)) fun x13 =>
  some x13)
  (some false)) fun g7 =>
  some g7

/-- orangebox/event.isWord -/
def F_event_isWord (p0 : Str) : Option Bool :=
  bindO (letO (decide ((p0 : Str) = [112, 104, 97, 115, 101])) fun x200 =>
  iteB x200
  (some x200)
  (letO (decide ((p0 : Str) = [109, 111, 118, 101])) fun x204 =>
  iteB x204
  (some x204)
  (letO (decide ((p0 : Str) = [114, 117, 108, 101])) fun x208 =>
  iteB x208
  (some x208)
  (letO (decide ((p0 : Str) = [105, 102])) fun x212 =>
  iteB x212
  (some x212)
  (letO (decide ((p0 : Str) = [111, 114])) fun x216 =>
  iteB x216
  (some x216)
  (letO (decide ((p0 : Str) = [97, 110, 100])) fun x220 =>
  iteB x220
  (some x220)
  (letO (decide ((p0 : Str) = [116, 114, 117, 101])) fun x224 =>
  iteB x224
  (some x224)
  (letO (decide ((p0 : Str) = [102, 97, 108, 115, 101])) fun x228 =>
  iteB x228
  (some x228)
  (letO (decide ((p0 : Str) = [115, 116, 101, 97, 100, 121])) fun x232 =>
  iteB x232
  (some x232)
  (letO (decide ((p0 : Str) = [110, 111, 116])) fun x236 =>
  iteB x236
  (some x236)
  (letO (decide ((p0 : Str) = [102, 111, 114])) fun x240 =>
  iteB x240
  (some x240)
  (letO (decide ((p0 : Str) = [119, 105, 116, 104, 105, 110])) fun x244 =>
  iteB x244
  (some x244)
  (letO (decide ((p0 : Str) = [99, 111, 117, 110, 116])) fun x248 =>
  iteB x248
  (some x248)
  (letO (decide ((p0 : Str) = [111, 102])) fun x252 =>
  iteB x252
  (some x252)
  (letO (decide ((p0 : Str) = [114, 105, 115, 101, 115])) fun x256 =>
  iteB x256
  (some x256)
  (letO (decide ((p0 : Str) = [115, 105, 110, 99, 101])) fun x259 =>
  some x259)))))))))))))))) fun g196 =>
  iteB g196
  (some true)
  (some false)

/-- orangebox/event.nameByte -/
def F_event_nameByte (p0 : Int) : Option Bool :=
  bindO (letO (decide (97 ≤ p0)) fun x31 =>
  iteB x31
  (letO (decide (p0 ≤ 122)) fun x34 =>
  iteB x34
  (some true)
  (letO (decide (48 ≤ p0)) fun x37 =>
  iteB x37
  (letO (decide (p0 ≤ 57)) fun x40 =>
  iteB x40
  (some true)
  (letO (decide (p0 = 45)) fun x43 =>
  some x43))
  (letO (decide (p0 = 45)) fun x45 =>
  some x45)))
  (letO (decide (48 ≤ p0)) fun x47 =>
  iteB x47
  (letO (decide (p0 ≤ 57)) fun x50 =>
  iteB x50
  (some true)
  (letO (decide (p0 = 45)) fun x53 =>
  some x53))
  (letO (decide (p0 = 45)) fun x55 =>
  some x55))) fun g28 =>
  some g28

def F_event_isName_L1 (p0 : Str) (k216 : Unit → Option Bool) (x219 : Int) : Int → Option Bool := loopO fun k292 g288 =>
  letO (decide (g288 < x219)) fun x296 =>
  iteB x296
  (bindO (byte' p0 g288) fun x316 =>
  bindO (F_event_nameByte x316) fun x318 =>
  letO (!x318) fun x322 =>
  iteB x322
  (some false)
  (letO (IntKind.i64.wrap (g288 + 1)) fun x326 =>
  k292 x326))
  (k216 ())
/-- orangebox/event.isName -/
def F_event_isName (p0 : Str) : Option Bool :=
  bindO (letO (p0.length : Int) fun x80 =>
  bindO (F_event_within x80 1 30) fun x82 =>
  letO (!x82) fun x86 =>
  iteB x86
  (some true)
  (bindO (byte' p0 0) fun x89 =>
  letO (decide (x89 < 97)) fun x91 =>
  iteB x91
  (some true)
  (bindO (byte' p0 0) fun x94 =>
  letO (decide (122 < x94)) fun x96 =>
  iteB x96
  (some true)
  (bindO (F_event_isWord p0) fun x99 =>
  some x99)))) fun g77 =>
  iteB g77
  (some false)
  (joinO (fun _ =>
  some true) fun k216 =>
  letO (p0.length : Int) fun x219 =>
  F_event_isName_L1 p0 k216 x219 0)

/-- orangebox/event.IsName -/
def F_event_IsName (p0 : Str) : Option Bool :=
  bindO (F_event_isName p0) fun x3 =>
  some x3

/-- orangebox/fleet.within -/
def F_fleet_within (p0 : Int) (p1 : Int) (p2 : Int) : Option Bool :=
  bindO (letO (decide (p1 ≤ p0)) fun x10 =>
  iteB x10
  (letO (decide (p0 ≤ p2)) fun x13 =>
  some x13)
  (some false)) fun g7 =>
  some g7

/-- orangebox/event.CheckTracks$1 -/
def F_event_CheckTracks_1 (p0 : Track) (c0 : Track) : Option Bool :=
  letO (decide ((p0.Name : Str) = c0.Name)) fun x12 =>
  some x12

def F_slices_IndexFunc___api_Track_api_Track__event_CheckTracks_1_L1 (p0 : List Track) (p1c0 : Track) (k188 : Unit → Option Int) (x191 : Int) : Int → Option Int := loopO fun k311 g307 =>
  letO (decide (g307 < x191)) fun x315 =>
  iteB x315
  (bindO (at' p0 g307) fun x346 =>
  bindO (F_event_CheckTracks_1 x346 p1c0) fun x361 =>
  iteB x361
  (some g307)
  (letO (IntKind.i64.wrap (g307 + 1)) fun x367 =>
  k311 x367))
  (k188 ())
/-- slices.IndexFunc[[]orangebox/api.Track,orangebox/api.Track]@orangebox/event.CheckTracks$1 -/
def F_slices_IndexFunc___api_Track_api_Track__event_CheckTracks_1 (p0 : List Track) (p1c0 : Track) : Option Int :=
  joinO (fun _ =>
  some (-1)) fun k188 =>
  letO (p0.length : Int) fun x191 =>
  F_slices_IndexFunc___api_Track_api_Track__event_CheckTracks_1_L1 p0 p1c0 k188 x191 0

/-- slices.ContainsFunc[[]orangebox/api.Track,orangebox/api.Track]@orangebox/event.CheckTracks$1 -/
def F_slices_ContainsFunc___api_Track_api_Track__event_CheckTracks_1 (p0 : List Track) (p1c0 : Track) : Option Bool :=
  bindO (F_slices_IndexFunc___api_Track_api_Track__event_CheckTracks_1 p0 p1c0) fun x9 =>
  letO (decide (0 ≤ x9)) fun x13 =>
  some x13

/-- orangebox/series.within -/
def F_series_within (p0 : Int) (p1 : Int) (p2 : Int) : Option Bool :=
  bindO (letO (decide (p1 ≤ p0)) fun x10 =>
  iteB x10
  (letO (decide (p0 ≤ p2)) fun x13 =>
  some x13)
  (some false)) fun g7 =>
  some g7

def F_series_check_L1 (p0 : Series) (k833 : Unit → Option (Int × Int)) (x836 : Int) : Int → Option (Int × Int) := loopO fun k1360 g1356 =>
  letO (decide (g1356 < x836)) fun x1364 =>
  iteB x1364
  (bindO (at' p0.Samples g1356) fun x1495 =>
  bindO (bindO (F_series_within x1495.At 0 1099511627776) fun x1534 =>
  letO (!x1534) fun x1538 =>
  iteB x1538
  (some true)
  (bindO (F_series_within x1495.N (-1125899906842624) 1125899906842624) fun x1541 =>
  letO (!x1541) fun x1545 =>
  iteB x1545
  (some true)
  (bindO (F_series_within x1495.Mark 0 4) fun x1548 =>
  letO (!x1548) fun x1552 =>
  some x1552))) fun g1531 =>
  iteB g1531
  (some (g1356, 9))
  (bindO (letO (decide (x1495.N ≠ 0)) fun x1564 =>
  iteB x1564
  (letO (decide (x1495.Mark ≤ 1)) fun x1567 =>
  some x1567)
  (some false)) fun g1561 =>
  iteB g1561
  (some (g1356, 2))
  (bindO (letO (decide (0 < g1356)) fun x1595 =>
  iteB x1595
  (letO (IntKind.i64.wrap (g1356 - 1)) fun x1598 =>
  bindO (at' p0.Samples x1598) fun x1600 =>
  letO (decide (x1495.At ≤ x1600.At)) fun x1612 =>
  some x1612)
  (some false)) fun g1592 =>
  iteB g1592
  (some (g1356, 10))
  (letO (IntKind.i64.wrap (g1356 + 1)) fun x1618 =>
  k1360 x1618))))
  (k833 ())
/-- orangebox/series.check -/
def F_series_check (p0 : Series) : Option (Int × Int) :=
  bindO (F_series_within p0.Den 1 1000000) fun x18 =>
  letO (!x18) fun x22 =>
  iteB x22
  (some ((-1), 9))
  (letO (p0.Samples.length : Int) fun x38 =>
  letO (decide (20000 < x38)) fun x43 =>
  iteB x43
  (some ((-1), 3))
  (joinO (fun _ =>
  some ((-1), 0)) fun k833 =>
  letO (p0.Samples.length : Int) fun x836 =>
  F_series_check_L1 p0 k833 x836 0))

/-- orangebox/series.Check -/
def F_series_Check (p0 : Series) : Option Int :=
  bindO (F_series_check p0) fun ⟨x8, x9⟩ =>
  some x9

def F_event_CheckTracks_L1 (p0 : List Track) (k631 : Unit → Option Int) (x634 : Int) : Int → Option Int := loopO fun k1038 g1034 =>
  letO (decide (g1034 < x634)) fun x1042 =>
  iteB x1042
  (bindO (at' p0 g1034) fun x1143 =>
  bindO (F_event_isName x1143.Name) fun x1173 =>
  letO (!x1173) fun x1177 =>
  iteB x1177
  (some 8)
  (bindO (sub' p0 0 g1034) fun x1195 =>
  bindO (F_slices_ContainsFunc___api_Track_api_Track__event_CheckTracks_1 x1195 x1143) fun x1200 =>
  iteB x1200
  (some 5)
  (bindO (F_series_Check x1143.Series) fun x1218 =>
  letO (decide (x1218 ≠ 0)) fun x1223 =>
  iteB x1223
  (some x1218)
  (bindO (F_event_within x1143.Long 0 1099511627776) fun x1228 =>
  letO (!x1228) fun x1232 =>
  iteB x1232
  (some 9)
  (letO (IntKind.i64.wrap (g1034 + 1)) fun x1236 =>
  k1038 x1236)))))
  (k631 ())
/-- orangebox/event.CheckTracks -/
def F_event_CheckTracks (p0 : List Track) : Option Int :=
  letO (p0.length : Int) fun x16 =>
  letO (decide (50 < x16)) fun x21 =>
  iteB x21
  (some 3)
  (joinO (fun _ =>
  some 0) fun k631 =>
  letO (p0.length : Int) fun x634 =>
  F_event_CheckTracks_L1 p0 k631 x634 0)

/-- orangebox/fleet.CheckFlight -/
def F_fleet_CheckFlight (p0 : Flight) : Option Int :=
  bindO (letO (decide ((p0.Tail : Str) ≠ [])) fun x150 =>
  iteB x150
  (bindO (F_event_IsName p0.Tail) fun x153 =>
  letO (!x153) fun x157 =>
  iteB x157
  (some true)
  (bindO (F_event_IsName p0.Route) fun x160 =>
  letO (!x160) fun x164 =>
  some x164))
  (bindO (F_event_IsName p0.Route) fun x166 =>
  letO (!x166) fun x170 =>
  some x170)) fun g147 =>
  iteB g147
  (some 8)
  (bindO (bindO (F_fleet_within p0.Day 0 1000000) fun x192 =>
  letO (!x192) fun x196 =>
  iteB x196
  (some true)
  (letO (decide (p0.From < 0)) fun x199 =>
  iteB x199
  (some true)
  (letO (decide (p0.To < p0.From)) fun x202 =>
  iteB x202
  (some true)
  (letO (decide (4194304 ≤ p0.To)) fun x205 =>
  some x205)))) fun g189 =>
  iteB g189
  (some 9)
  (bindO (letO (IntKind.i64.wrap (p0.To - p0.From)) fun x226 =>
  letO (IntKind.i64.wrap (x226 + 1)) fun x228 =>
  letO (decide (20000 < x228)) fun x230 =>
  iteB x230
  (some true)
  (letO (p0.Tracks.length : Int) fun x233 =>
  letO (decide (30 < x233)) fun x238 =>
  some x238)) fun g223 =>
  iteB g223
  (some 3)
  (bindO (F_event_CheckTracks p0.Tracks) fun x243 =>
  some x243)))

def F_fleet_trackOf_L1 (p0 : Flight) (p1 : Str) (k266 : Unit → Option (Option Track)) (x269 : Int) : Int → Option (Option Track) := loopO fun k441 g437 =>
  letO (decide (g437 < x269)) fun x445 =>
  iteB x445
  (bindO (at' p0.Tracks g437) fun x489 =>
  letO (decide ((x489.Name : Str) = p1)) fun x504 =>
  iteB x504
  (bindO (at' p0.Tracks g437) fun x508 =>
  some (some x508))
  (letO (IntKind.i64.wrap (g437 + 1)) fun x524 =>
  k441 x524))
  (k266 ())
/-- orangebox/fleet.trackOf -/
def F_fleet_trackOf (p0 : Flight) (p1 : Str) : Option (Option Track) :=
  joinO (fun _ =>
  some none) fun k266 =>
  letO (p0.Tracks.length : Int) fun x269 =>
  F_fleet_trackOf_L1 p0 p1 k266 x269 0

def F_fleet_peak_L1 (p0 : Flight) (x725 : Track) (x739 : Int) : Int × Bool × Int → Option (Int × Bool) := loopO fun k1185 ⟨g1179, g1180, g1181⟩ =>
  letO (decide (g1181 < x739)) fun x1189 =>
  iteB x1189
  (bindO (bindO (at' x725.Series.Samples g1181) fun x1308 =>
  bindO (letO (decide (x1308.Mark < 3)) fun x1383 =>
  iteB x1383
  (some true)
  (letO (IntKind.i64.wrap (64 * p0.From)) fun x1386 =>
  letO (IntKind.i64.wrap (64 * p0.To)) fun x1388 =>
  letO (IntKind.i64.wrap (x1388 + 64)) fun x1390 =>
  letO (IntKind.i64.wrap (x1390 - 1)) fun x1392 =>
  bindO (F_fleet_within x1308.At x1386 x1392) fun x1394 =>
  letO (!x1394) fun x1398 =>
  some x1398)) fun g1380 =>
  iteB g1380
  (some (g1179, g1180))
  (bindO (letO (!g1180) fun x1409 =>
  iteB x1409
  (some true)
  (letO (decide (g1179 < x1308.N)) fun x1412 =>
  some x1412)) fun g1406 =>
  iteB g1406
  (some (x1308.N, true))
  (some (g1179, g1180)))) fun ⟨g1302, g1303⟩ =>
  letO (IntKind.i64.wrap (g1181 + 1)) fun x1415 =>
  k1185 (g1302, g1303, x1415))
  (some (g1179, g1180))
/-- orangebox/fleet.peak -/
def F_fleet_peak (p0 : Flight) (p1 : Str) : Option (Int × Bool) :=
  bindO (F_fleet_trackOf p0 p1) fun x8 =>
  letO x8.isNone fun x21 =>
  iteB x21
  (some (0, false))
  (bindO (bindO x8 fun x725 =>
  letO (x725.Series.Samples.length : Int) fun x739 =>
  F_fleet_peak_L1 p0 x725 x739 (0, false, 0)) fun ⟨g719, g720⟩ =>
  some (g719, g720))

/-- orangebox/fleet.Peak -/
def F_fleet_Peak (p0 : Flight) (p1 : Str) : Option (Int × Bool × Int) :=
  bindO (F_fleet_CheckFlight p0) fun x19 =>
  letO (decide (x19 ≠ 0)) fun x24 =>
  iteB x24
  (some (0, false, x19))
  (bindO (F_event_IsName p1) fun x39 =>
  letO (!x39) fun x43 =>
  iteB x43
  (some (0, false, 8))
  (bindO (F_fleet_peak p0 p1) fun ⟨x48, x49⟩ =>
  some (x48, x49, 0)))

/-- orangebox/orangeboxref6.words -/
def F_ref6_words : Option (List Str) :=
  letO ([[112, 104, 97, 115, 101], [109, 111, 118, 101], [114, 117, 108, 101], [105, 102], [111, 114], [97, 110, 100], [116, 114, 117, 101], [102, 97, 108, 115, 101], [115, 116, 101, 97, 100, 121], [110, 111, 116], [102, 111, 114], [119, 105, 116, 104, 105, 110], [99, 111, 117, 110, 116], [111, 102], [114, 105, 115, 101, 115], [115, 105, 110, 99, 101]] : List Str) fun _ =>
  some ([[112, 104, 97, 115, 101], [109, 111, 118, 101], [114, 117, 108, 101], [105, 102], [111, 114], [97, 110, 100], [116, 114, 117, 101], [102, 97, 108, 115, 101], [115, 116, 101, 97, 100, 121], [110, 111, 116], [102, 111, 114], [119, 105, 116, 104, 105, 110], [99, 111, 117, 110, 116], [111, 102], [114, 105, 115, 101, 115], [115, 105, 110, 99, 101]] : List Str)

def F_ref6_Reserved_L1 (p0 : Str) (x3 : List Str) (k181 : Unit → Option Bool) : Int → Option Bool := loopO fun k297 g293 =>
  letO (x3.length : Int) fun x311 =>
  letO (decide (g293 < x311)) fun x316 =>
  iteB x316
  (bindO (at' x3 g293) fun x337 =>
  letO (decide ((x337 : Str) = p0)) fun x348 =>
  iteB x348
  (some true)
  (letO (IntKind.i64.wrap (g293 + 1)) fun x352 =>
  k297 x352))
  (k181 ())
/-- orangebox/orangeboxref6.Reserved -/
def F_ref6_Reserved (p0 : Str) : Option Bool :=
  bindO (F_ref6_words) fun x3 =>
  joinO (fun _ =>
  some false) fun k181 =>
  F_ref6_Reserved_L1 p0 x3 k181 0

def F_ref6_IsName_L1 (p0 : Str) (k588 : Unit → Option Bool) : Int → Option Bool := loopO fun k980 g976 =>
  letO (p0.length : Int) fun x991 =>
  letO (decide (g976 < x991)) fun x993 =>
  iteB x993
  (bindO (byte' p0 g976) fun x1086 =>
  bindO (letO (decide (97 ≤ x1086)) fun x1131 =>
  iteB x1131
  (letO (decide (x1086 ≤ 122)) fun x1134 =>
  iteB x1134
  (some false)
  (letO (decide (0 < g976)) fun x1137 =>
  iteB x1137
  (letO (decide (48 ≤ x1086)) fun x1140 =>
  iteB x1140
  (letO (decide (x1086 ≤ 57)) fun x1143 =>
  iteB x1143
  (some false)
  (letO (decide (x1086 = 45)) fun x1146 =>
  letO (!x1146) fun x1148 =>
  some x1148))
  (letO (decide (x1086 = 45)) fun x1150 =>
  letO (!x1150) fun x1152 =>
  some x1152))
  (some true)))
  (letO (decide (0 < g976)) fun x1154 =>
  iteB x1154
  (letO (decide (48 ≤ x1086)) fun x1157 =>
  iteB x1157
  (letO (decide (x1086 ≤ 57)) fun x1160 =>
  iteB x1160
  (some false)
  (letO (decide (x1086 = 45)) fun x1163 =>
  letO (!x1163) fun x1165 =>
  some x1165))
  (letO (decide (x1086 = 45)) fun x1167 =>
  letO (!x1167) fun x1169 =>
  some x1169))
  (some true))) fun g1128 =>
  iteB g1128
  (some false)
  (letO (IntKind.i64.wrap (g976 + 1)) fun x1173 =>
  k980 x1173))
  (k588 ())
/-- orangebox/orangeboxref6.IsName -/
def F_ref6_IsName (p0 : Str) : Option Bool :=
  joinO (fun _ =>
  bindO (letO (decide ((p0 : Str) ≠ [])) fun x1192 =>
  iteB x1192
  (letO (p0.length : Int) fun x1195 =>
  letO (decide (x1195 ≤ 30)) fun x1197 =>
  iteB x1197
  (bindO (F_ref6_Reserved p0) fun x1200 =>
  letO (!x1200) fun x1204 =>
  some x1204)
  (some false))
  (some false)) fun g1189 =>
  some g1189) fun k588 =>
  F_ref6_IsName_L1 p0 k588 0

/-- orangebox/orangeboxref9.outside -/
def F_ref9_outside (p0 : Int) (p1 : Int) (p2 : Int) : Option Bool :=
  bindO (letO (decide (p0 < p1)) fun x10 =>
  iteB x10
  (some true)
  (letO (decide (p2 < p0)) fun x13 =>
  some x13)) fun g7 =>
  some g7

/-- orangebox/orangeboxref5.outside -/
def F_ref5_outside (p0 : Int) (p1 : Int) (p2 : Int) : Option Bool :=
  bindO (letO (decide (p0 < p1)) fun x10 =>
  iteB x10
  (some true)
  (letO (decide (p2 < p0)) fun x13 =>
  some x13)) fun g7 =>
  some g7

/-- orangebox/orangeboxref5.numbered -/
def F_ref5_numbered (p0 : Int) : Option Bool :=
  letO (decide (2 ≤ p0)) fun x3 =>
  some x3

/-- orangebox/orangeboxref5.sampleFault -/
def F_ref5_sampleFault (p0 : Sample) : Option Int :=
  bindO (bindO (F_ref5_outside p0.At 0 1099511627776) fun x56 =>
  iteB x56
  (some true)
  (bindO (F_ref5_outside p0.N (-1125899906842624) 1125899906842624) fun x61 =>
  iteB x61
  (some true)
  (bindO (F_ref5_outside p0.Mark 0 4) fun x66 =>
  some x66))) fun g53 =>
  iteB g53
  (some 9)
  (bindO (letO (decide (p0.N ≠ 0)) fun x108 =>
  iteB x108
  (bindO (F_ref5_numbered p0.Mark) fun x111 =>
  letO (!x111) fun x115 =>
  some x115)
  (some false)) fun g105 =>
  iteB g105
  (some 2)
  (some 0))

def F_ref5_fault_L1 (p0 : Series) (k815 : Unit → Option (Int × Int)) : Int → Option (Int × Int) := loopO fun k1331 g1327 =>
  letO (p0.Samples.length : Int) fun x1345 =>
  letO (decide (g1327 < x1345)) fun x1350 =>
  iteB x1350
  (bindO (at' p0.Samples g1327) fun x1494 =>
  bindO (F_ref5_sampleFault x1494) fun x1506 =>
  letO (decide (x1506 ≠ 0)) fun x1511 =>
  iteB x1511
  (some (g1327, x1506))
  (bindO (letO (decide (0 < g1327)) fun x1551 =>
  iteB x1551
  (bindO (at' p0.Samples g1327) fun x1554 =>
  letO (IntKind.i64.wrap (g1327 - 1)) fun x1566 =>
  bindO (at' p0.Samples x1566) fun x1568 =>
  letO (decide (x1554.At ≤ x1568.At)) fun x1580 =>
  some x1580)
  (some false)) fun g1548 =>
  iteB g1548
  (some (g1327, 10))
  (letO (IntKind.i64.wrap (g1327 + 1)) fun x1586 =>
  k1331 x1586)))
  (k815 ())
/-- orangebox/orangeboxref5.fault -/
def F_ref5_fault (p0 : Series) : Option (Int × Int) :=
  bindO (F_ref5_outside p0.Den 1 1000000) fun x16 =>
  iteB x16
  (some ((-1), 9))
  (letO (p0.Samples.length : Int) fun x34 =>
  letO (decide (20000 < x34)) fun x39 =>
  iteB x39
  (some ((-1), 3))
  (joinO (fun _ =>
  some ((-1), 0)) fun k815 =>
  F_ref5_fault_L1 p0 k815 0))

/-- orangebox/orangeboxref5.Check -/
def F_ref5_Check (p0 : Series) : Option Int :=
  bindO (F_ref5_fault p0) fun ⟨x8, x9⟩ =>
  some x9

/-- orangebox/orangeboxref6.outside -/
def F_ref6_outside (p0 : Int) (p1 : Int) (p2 : Int) : Option Bool :=
  bindO (letO (decide (p0 < p1)) fun x10 =>
  iteB x10
  (some true)
  (letO (decide (p2 < p0)) fun x13 =>
  some x13)) fun g7 =>
  some g7

def F_ref6_CheckTracks_L2 (p0 : List Track) (g6629 : Int) (k7616 : Unit → Option Int) : Int → Option Int := loopO fun k7792 g7788 =>
  letO (decide (g7788 < g6629)) fun x7801 =>
  iteB x7801
  (bindO (at' p0 g7788) fun x7842 =>
  bindO (at' p0 g6629) fun x7857 =>
  letO (decide ((x7842.Name : Str) = x7857.Name)) fun x7872 =>
  iteB x7872
  (some 5)
  (letO (IntKind.i64.wrap (g7788 + 1)) fun x7877 =>
  k7792 x7877))
  (k7616 ())
def F_ref6_CheckTracks_L1 (p0 : List Track) (k3989 : Unit → Option Int) : Int → Option Int := loopO fun k6633 g6629 =>
  letO (p0.length : Int) fun x6647 =>
  letO (decide (g6629 < x6647)) fun x6652 =>
  iteB x6652
  (joinO (fun _ =>
  letO (IntKind.i64.wrap (g6629 + 1)) fun x7952 =>
  k6633 x7952) fun k7303 =>
  bindO (at' p0 g6629) fun x7331 =>
  bindO (F_ref6_IsName x7331.Name) fun x7346 =>
  letO (!x7346) fun x7350 =>
  iteB x7350
  (some 8)
  (joinO (fun _ =>
  bindO (at' p0 g6629) fun x7906 =>
  bindO (F_ref5_Check x7906.Series) fun x7921 =>
  letO (decide (x7921 ≠ 0)) fun x7926 =>
  iteB x7926
  (some x7921)
  (bindO (at' p0 g6629) fun x7931 =>
  bindO (F_ref6_outside x7931.Long 0 1099511627776) fun x7946 =>
  iteB x7946
  (some 9)
  (k7303 ()))) fun k7616 =>
  F_ref6_CheckTracks_L2 p0 g6629 k7616 0))
  (k3989 ())
/-- orangebox/orangeboxref6.CheckTracks -/
def F_ref6_CheckTracks (p0 : List Track) : Option Int :=
  letO (p0.length : Int) fun x16 =>
  letO (decide (50 < x16)) fun x21 =>
  iteB x21
  (some 3)
  (joinO (fun _ =>
  some 0) fun k3989 =>
  F_ref6_CheckTracks_L1 p0 k3989 0)

/-- orangebox/orangeboxref9.CheckFlight -/
def F_ref9_CheckFlight (p0 : Flight) : Option Int :=
  bindO (letO (decide ((p0.Tail : Str) ≠ [])) fun x82 =>
  iteB x82
  (bindO (F_ref6_IsName p0.Tail) fun x85 =>
  letO (!x85) fun x89 =>
  iteB x89
  (some true)
  (bindO (F_ref6_IsName p0.Route) fun x92 =>
  letO (!x92) fun x96 =>
  some x96))
  (bindO (F_ref6_IsName p0.Route) fun x98 =>
  letO (!x98) fun x102 =>
  some x102)) fun g79 =>
  iteB g79
  (some 8)
  (bindO (bindO (F_ref9_outside p0.Day 0 1000000) fun x154 =>
  iteB x154
  (some true)
  (letO (decide (p0.From < 0)) fun x159 =>
  iteB x159
  (some true)
  (letO (decide (p0.To < p0.From)) fun x162 =>
  iteB x162
  (some true)
  (letO (decide (4194303 < p0.To)) fun x165 =>
  some x165)))) fun g151 =>
  iteB g151
  (some 9)
  (bindO (letO (IntKind.i64.wrap (p0.To - p0.From)) fun x220 =>
  letO (IntKind.i64.wrap (x220 + 1)) fun x222 =>
  letO (decide (20000 < x222)) fun x224 =>
  iteB x224
  (some true)
  (letO (p0.Tracks.length : Int) fun x227 =>
  letO (decide (30 < x227)) fun x232 =>
  some x232)) fun g217 =>
  iteB g217
  (some 3)
  (bindO (F_ref6_CheckTracks p0.Tracks) fun x237 =>
  some x237)))

def F_ref9_peak_L2 (p0 : Flight) (x8665 : Track) : Int × Bool × Int → Option (Int × Int × Bool) := loopO fun k9163 ⟨g9157, g9158, g9159⟩ =>
  letO (x8665.Series.Samples.length : Int) fun x9177 =>
  letO (decide (g9159 < x9177)) fun x9182 =>
  iteB x9182
  (bindO (bindO (at' x8665.Series.Samples g9159) fun x9295 =>
  bindO (letO (decide (x9295.Mark < 3)) fun x9367 =>
  iteB x9367
  (some true)
  (letO (IntKind.i64.wrap (64 * p0.From)) fun x9370 =>
  letO (decide (x9295.At < x9370)) fun x9372 =>
  iteB x9372
  (some true)
  (letO (IntKind.i64.wrap (64 * p0.To)) fun x9375 =>
  letO (IntKind.i64.wrap (x9375 + 64)) fun x9377 =>
  letO (IntKind.i64.wrap (x9377 - 1)) fun x9379 =>
  letO (decide (x9379 < x9295.At)) fun x9381 =>
  some x9381))) fun g9364 =>
  iteB g9364
  (some (g9157, g9158))
  (bindO (letO (!g9158) fun x9392 =>
  iteB x9392
  (some true)
  (letO (decide (g9157 < x9295.N)) fun x9395 =>
  some x9395)) fun g9389 =>
  iteB g9389
  (some (x9295.N, true))
  (some (g9157, g9158)))) fun ⟨g9289, g9290⟩ =>
  letO (IntKind.i64.wrap (g9159 + 1)) fun x9398 =>
  k9163 (g9289, g9290, x9398))
  (some (g9157, x8665.Series.Den, g9158))
def F_ref9_peak_L1 (p0 : Flight) (p1 : Str) : Int × Int × Bool × Int → Option (Int × Int × Bool) := loopO fun k7822 ⟨g7815, g7816, g7817, g7818⟩ =>
  letO (p0.Tracks.length : Int) fun x7836 =>
  letO (decide (g7818 < x7836)) fun x7841 =>
  iteB x7841
  (bindO (bindO (at' p0.Tracks g7818) fun x8646 =>
  letO (decide ((x8646.Name : Str) ≠ p1)) fun x8661 =>
  iteB x8661
  (some (g7815, g7816, g7817))
  (bindO (at' p0.Tracks g7818) fun x8665 =>
  F_ref9_peak_L2 p0 x8665 (g7815, g7817, 0))) fun ⟨g8619, g8620, g8621⟩ =>
  letO (IntKind.i64.wrap (g7818 + 1)) fun x9400 =>
  k7822 (g8619, g8620, g8621, x9400))
  (some (g7815, g7816, g7817))
/-- orangebox/orangeboxref9.peak -/
def F_ref9_peak (p0 : Flight) (p1 : Str) : Option (Int × Int × Bool) :=
  bindO (F_ref9_peak_L1 p0 p1 (0, 1, false, 0)) fun ⟨g4702, g4703, g4704⟩ =>
  some (g4702, g4703, g4704)

/-- orangebox/orangeboxref9.Peak -/
def F_ref9_Peak (p0 : Flight) (p1 : Str) : Option (Int × Bool × Int) :=
  bindO (F_ref9_CheckFlight p0) fun x19 =>
  letO (decide (x19 ≠ 0)) fun x24 =>
  iteB x24
  (some (0, false, x19))
  (bindO (F_ref6_IsName p1) fun x39 =>
  letO (!x39) fun x43 =>
  iteB x43
  (some (0, false, 8))
  (bindO (F_ref9_peak p0 p1) fun ⟨x48, x49, x50⟩ =>
  some (x48, x50, 0)))

/-- orangebox/fleet.CheckTable$1 -/
def F_fleet_CheckTable_1 (p0 : FleetRow) : Option Bool :=
  letO (!p0.Hidden) fun x8 =>
  some x8

def F_slices_IndexFunc___api_FleetRow_api_FleetRow__fleet_CheckTable_1_L1 (p0 : List FleetRow) (k184 : Unit → Option Int) (x187 : Int) : Int → Option Int := loopO fun k307 g303 =>
  letO (decide (g303 < x187)) fun x311 =>
  iteB x311
  (bindO (at' p0 g303) fun x342 =>
  bindO (F_fleet_CheckTable_1 x342) fun x357 =>
  iteB x357
  (some g303)
  (letO (IntKind.i64.wrap (g303 + 1)) fun x363 =>
  k307 x363))
  (k184 ())
/-- slices.IndexFunc[[]orangebox/api.FleetRow,orangebox/api.FleetRow]@orangebox/fleet.CheckTable$1 -/
def F_slices_IndexFunc___api_FleetRow_api_FleetRow__fleet_CheckTable_1 (p0 : List FleetRow) : Option Int :=
  joinO (fun _ =>
  some (-1)) fun k184 =>
  letO (p0.length : Int) fun x187 =>
  F_slices_IndexFunc___api_FleetRow_api_FleetRow__fleet_CheckTable_1_L1 p0 k184 x187 0

/-- orangebox/fleet.CheckTable$3 -/
def F_fleet_CheckTable_3 (p0 : FleetRow) (c0 : FleetRow) : Option Bool :=
  letO (decide ((p0.Key : Str) = c0.Key)) fun x12 =>
  some x12

def F_slices_IndexFunc___api_FleetRow_api_FleetRow__fleet_CheckTable_3_L1 (p0 : List FleetRow) (p1c0 : FleetRow) (k188 : Unit → Option Int) (x191 : Int) : Int → Option Int := loopO fun k311 g307 =>
  letO (decide (g307 < x191)) fun x315 =>
  iteB x315
  (bindO (at' p0 g307) fun x346 =>
  bindO (F_fleet_CheckTable_3 x346 p1c0) fun x361 =>
  iteB x361
  (some g307)
  (letO (IntKind.i64.wrap (g307 + 1)) fun x367 =>
  k311 x367))
  (k188 ())
/-- slices.IndexFunc[[]orangebox/api.FleetRow,orangebox/api.FleetRow]@orangebox/fleet.CheckTable$3 -/
def F_slices_IndexFunc___api_FleetRow_api_FleetRow__fleet_CheckTable_3 (p0 : List FleetRow) (p1c0 : FleetRow) : Option Int :=
  joinO (fun _ =>
  some (-1)) fun k188 =>
  letO (p0.length : Int) fun x191 =>
  F_slices_IndexFunc___api_FleetRow_api_FleetRow__fleet_CheckTable_3_L1 p0 p1c0 k188 x191 0

/-- slices.ContainsFunc[[]orangebox/api.FleetRow,orangebox/api.FleetRow]@orangebox/fleet.CheckTable$3 -/
def F_slices_ContainsFunc___api_FleetRow_api_FleetRow__fleet_CheckTable_3 (p0 : List FleetRow) (p1c0 : FleetRow) : Option Bool :=
  bindO (F_slices_IndexFunc___api_FleetRow_api_FleetRow__fleet_CheckTable_3 p0 p1c0) fun x9 =>
  letO (decide (0 ≤ x9)) fun x13 =>
  some x13

/-- orangebox/fleet.CheckTable$2 -/
def F_fleet_CheckTable_2 (p0 : Int) : Option Bool :=
  bindO (F_fleet_within p0 0 1000000000) fun x3 =>
  letO (!x3) fun x7 =>
  some x7

def F_slices_IndexFunc___int_int__fleet_CheckTable_2_L1 (p0 : List Int) (k166 : Unit → Option Int) (x169 : Int) : Int → Option Int := loopO fun k277 g273 =>
  letO (decide (g273 < x169)) fun x281 =>
  iteB x281
  (bindO (at' p0 g273) fun x309 =>
  bindO (F_fleet_CheckTable_2 x309) fun x321 =>
  iteB x321
  (some g273)
  (letO (IntKind.i64.wrap (g273 + 1)) fun x327 =>
  k277 x327))
  (k166 ())
/-- slices.IndexFunc[[]int,int]@orangebox/fleet.CheckTable$2 -/
def F_slices_IndexFunc___int_int__fleet_CheckTable_2 (p0 : List Int) : Option Int :=
  joinO (fun _ =>
  some (-1)) fun k166 =>
  letO (p0.length : Int) fun x169 =>
  F_slices_IndexFunc___int_int__fleet_CheckTable_2_L1 p0 k166 x169 0

/-- slices.ContainsFunc[[]int,int]@orangebox/fleet.CheckTable$2 -/
def F_slices_ContainsFunc___int_int__fleet_CheckTable_2 (p0 : List Int) : Option Bool :=
  bindO (F_slices_IndexFunc___int_int__fleet_CheckTable_2 p0) fun x5 =>
  letO (decide (0 ≤ x5)) fun x9 =>
  some x9

def F_fleet_CheckTable_L1 (p0 : List FleetRow) (x26 : Int) (k979 : Unit → Option Int) (x982 : Int) : Int → Option Int := loopO fun k1614 g1610 =>
  letO (decide (g1610 < x982)) fun x1618 =>
  iteB x1618
  (bindO (at' p0 g1610) fun x1776 =>
  bindO (sub' p0 0 g1610) fun x1796 =>
  bindO (F_slices_ContainsFunc___api_FleetRow_api_FleetRow__fleet_CheckTable_3 x1796 x1776) fun x1801 =>
  iteB x1801
  (some 5)
  (bindO (iteB x1776.Hidden
  (letO (decide (x1776.Flights ≠ 0)) fun x1822 =>
  iteB x1822
  (some true)
  (letO (x1776.Events.length : Int) fun x1825 =>
  letO (decide (0 < x1825)) fun x1830 =>
  some x1830))
  (some false)) fun g1818 =>
  iteB g1818
  (some 2)
  (bindO (bindO (F_fleet_CheckTable_2 x1776.Flights) fun x1846 =>
  iteB x1846
  (some true)
  (bindO (F_slices_ContainsFunc___int_int__fleet_CheckTable_2 x1776.Events) fun x1851 =>
  some x1851)) fun g1843 =>
  iteB g1843
  (some 9)
  (bindO (letO (!x1776.Hidden) fun x1892 =>
  iteB x1892
  (letO (x1776.Events.length : Int) fun x1895 =>
  bindO (at' p0 x26) fun x1900 =>
  letO (x1900.Events.length : Int) fun x1915 =>
  letO (decide (x1895 ≠ x1915)) fun x1920 =>
  some x1920)
  (some false)) fun g1889 =>
  iteB g1889
  (some 2)
  (letO (IntKind.i64.wrap (g1610 + 1)) fun x1926 =>
  k1614 x1926)))))
  (k979 ())
/-- orangebox/fleet.CheckTable -/
def F_fleet_CheckTable (p0 : List FleetRow) : Option Int :=
  letO (p0.length : Int) fun x16 =>
  letO (decide (300 < x16)) fun x21 =>
  iteB x21
  (some 3)
  (bindO (F_slices_IndexFunc___api_FleetRow_api_FleetRow__fleet_CheckTable_1 p0) fun x26 =>
  joinO (fun _ =>
  some 0) fun k979 =>
  letO (p0.length : Int) fun x982 =>
  F_fleet_CheckTable_L1 p0 x26 k979 x982 0)

def F_fleet_Total_L2 (x4062 : FleetRow) (g4107 : Bool) (x4131 : Int) (x4135 : Int) : Int × (List Int) → Option (Int × (List Int) × Bool) := loopO fun k4325 ⟨g4320, g4321⟩ =>
  letO (decide (g4320 < x4135)) fun x4329 =>
  iteB x4329
  (bindO (at' x4062.Events g4320) fun x4376 =>
  bindO (at' g4321 g4320) fun x4388 =>
  letO (IntKind.i64.wrap (x4388 + x4376)) fun x4399 =>
  bindO (at' g4321 g4320) fun x4401 =>
  bindO (set' g4321 g4320 x4399) fun x4412 =>
  letO (IntKind.i64.wrap (g4320 + 1)) fun x4415 =>
  k4325 (x4415, x4412))
  (some (x4131, g4321, g4107))
def F_fleet_Total_L1 (p0 : List FleetRow) (x2233 : Int) : Int × Int × (List Int) × Bool → Option (Int × (List Int) × Bool) := loopO fun k3687 ⟨g3675, g3676, g3678, g3680⟩ =>
  letO (decide (g3675 < x2233)) fun x3691 =>
  iteB x3691
  (bindO (bindO (at' p0 g3675) fun x4062 =>
  iteB x4062.Hidden
  (some (g3676, g3678, g3680))
  (bindO (iteB g3680
  (letO (x4062.Events.length : Int) fun x4117 =>
  bindO (make' 8 x4117 (0 : Int)) fun x4122 =>
  some (x4122, false))
  (some (g3678, g3680))) fun ⟨g4105, g4107⟩ =>
  letO (IntKind.i64.wrap (g3676 + x4062.Flights)) fun x4131 =>
  letO (x4062.Events.length : Int) fun x4135 =>
  F_fleet_Total_L2 x4062 g4107 x4131 x4135 (0, g4105))) fun ⟨g4052, g4054, g4056⟩ =>
  letO (IntKind.i64.wrap (g3675 + 1)) fun x4417 =>
  k3687 (x4417, g4052, g4054, g4056))
  (some (g3676, g3678, g3680))
/-- orangebox/fleet.Total -/
def F_fleet_Total (p0 : List FleetRow) : Option (FleetRow × Int) :=
  bindO (F_fleet_CheckTable p0) fun x21 =>
  letO (decide (x21 ≠ 0)) fun x26 =>
  iteB x26
  (some (FleetRow.mk [] false 0 [], x21))
  (bindO (letO (p0.length : Int) fun x2233 =>
  F_fleet_Total_L1 p0 x2233 (0, 0, [], true)) fun ⟨g2223, g2225, g2227⟩ =>
  some (FleetRow.mk [] false g2223 g2225, 0))

/-- orangebox/orangeboxlaw9.totals -/
def F_law9_totals : Option Bool :=
  letO ([1] : List Int) fun _ =>
  letO ([4] : List Int) fun _ =>
  letO ([FleetRow.mk [97] false 2 ([1] : List Int), FleetRow.mk [98] false 3 ([4] : List Int)] : List FleetRow) fun _ =>
  bindO (F_fleet_Total ([FleetRow.mk [97] false 2 ([1] : List Int), FleetRow.mk [98] false 3 ([4] : List Int)] : List FleetRow)) fun ⟨x24, x25⟩ =>
  bindO (letO (decide (x25 = 0)) fun x66 =>
  iteB x66
  (letO (decide (x24.Flights = 5)) fun x69 =>
  iteB x69
  (letO (x24.Events.length : Int) fun x72 =>
  letO (decide (x72 = 1)) fun x77 =>
  iteB x77
  (bindO (at' x24.Events 0) fun x80 =>
  letO (decide (x80 = 5)) fun x92 =>
  some x92)
  (some false))
  (some false))
  (some false)) fun g63 =>
  some g63

def F_slices_Index___string_string__L1 (p0 : List Str) (p1 : Str) (k154 : Unit → Option Int) (x157 : Int) : Int → Option Int := loopO fun k257 g253 =>
  letO (decide (g253 < x157)) fun x261 =>
  iteB x261
  (bindO (at' p0 g253) fun x287 =>
  letO (decide ((p1 : Str) = x287)) fun x299 =>
  iteB x299
  (some g253)
  (letO (IntKind.i64.wrap (g253 + 1)) fun x303 =>
  k257 x303))
  (k154 ())
/-- slices.Index[[]string,string] -/
def F_slices_Index___string_string_ (p0 : List Str) (p1 : Str) : Option Int :=
  joinO (fun _ =>
  some (-1)) fun k154 =>
  letO (p0.length : Int) fun x157 =>
  F_slices_Index___string_string__L1 p0 p1 k154 x157 0

/-- slices.Contains[[]string,string] -/
def F_slices_Contains___string_string_ (p0 : List Str) (p1 : Str) : Option Bool :=
  bindO (F_slices_Index___string_string_ p0 p1) fun x5 =>
  letO (decide (0 ≤ x5)) fun x9 =>
  some x9

def F_fleet_checkNames_L1 (p0 : List Str) (k331 : Unit → Option Int) (x334 : Int) : Int → Option Int := loopO fun k538 g534 =>
  letO (decide (g534 < x334)) fun x542 =>
  iteB x542
  (bindO (at' p0 g534) fun x593 =>
  bindO (F_event_IsName x593) fun x616 =>
  letO (!x616) fun x620 =>
  iteB x620
  (some 8)
  (bindO (sub' p0 0 g534) fun x625 =>
  bindO (F_slices_Contains___string_string_ x625 x593) fun x630 =>
  iteB x630
  (some 5)
  (letO (IntKind.i64.wrap (g534 + 1)) fun x636 =>
  k538 x636)))
  (k331 ())
/-- orangebox/fleet.checkNames -/
def F_fleet_checkNames (p0 : List Str) : Option Int :=
  letO (p0.length : Int) fun x16 =>
  letO (decide (30 < x16)) fun x21 =>
  iteB x21
  (some 3)
  (joinO (fun _ =>
  some 0) fun k331 =>
  letO (p0.length : Int) fun x334 =>
  F_fleet_checkNames_L1 p0 k331 x334 0)

/-- orangebox/fleet.CheckMask$1 -/
def F_fleet_CheckMask_1 (p0 : Grain) (c0 : Grain) : Option Bool :=
  letO (decide ((p0.Track : Str) = c0.Track)) fun x8 =>
  some x8

def F_slices_IndexFunc___api_Grain_api_Grain__fleet_CheckMask_1_L1 (p0 : List Grain) (p1c0 : Grain) (k168 : Unit → Option Int) (x171 : Int) : Int → Option Int := loopO fun k279 g275 =>
  letO (decide (g275 < x171)) fun x283 =>
  iteB x283
  (bindO (at' p0 g275) fun x311 =>
  bindO (F_fleet_CheckMask_1 x311 p1c0) fun x323 =>
  iteB x323
  (some g275)
  (letO (IntKind.i64.wrap (g275 + 1)) fun x329 =>
  k279 x329))
  (k168 ())
/-- slices.IndexFunc[[]orangebox/api.Grain,orangebox/api.Grain]@orangebox/fleet.CheckMask$1 -/
def F_slices_IndexFunc___api_Grain_api_Grain__fleet_CheckMask_1 (p0 : List Grain) (p1c0 : Grain) : Option Int :=
  joinO (fun _ =>
  some (-1)) fun k168 =>
  letO (p0.length : Int) fun x171 =>
  F_slices_IndexFunc___api_Grain_api_Grain__fleet_CheckMask_1_L1 p0 p1c0 k168 x171 0

/-- slices.ContainsFunc[[]orangebox/api.Grain,orangebox/api.Grain]@orangebox/fleet.CheckMask$1 -/
def F_slices_ContainsFunc___api_Grain_api_Grain__fleet_CheckMask_1 (p0 : List Grain) (p1c0 : Grain) : Option Bool :=
  bindO (F_slices_IndexFunc___api_Grain_api_Grain__fleet_CheckMask_1 p0 p1c0) fun x7 =>
  letO (decide (0 ≤ x7)) fun x11 =>
  some x11

def F_fleet_CheckMask_L1 (p0 : Mask) (k394 : Unit → Option Int) (x397 : Int) : Int → Option Int := loopO fun k613 g609 =>
  letO (decide (g609 < x397)) fun x617 =>
  iteB x617
  (bindO (at' p0.Grains g609) fun x671 =>
  bindO (F_event_IsName x671.Track) fun x688 =>
  letO (!x688) fun x692 =>
  iteB x692
  (some 8)
  (bindO (sub' p0.Grains 0 g609) fun x697 =>
  bindO (F_slices_ContainsFunc___api_Grain_api_Grain__fleet_CheckMask_1 x697 x671) fun x702 =>
  iteB x702
  (some 5)
  (bindO (F_fleet_within x671.N 1 1125899906842624) fun x709 =>
  letO (!x709) fun x713 =>
  iteB x713
  (some 9)
  (letO (IntKind.i64.wrap (g609 + 1)) fun x717 =>
  k613 x717))))
  (k394 ())
/-- orangebox/fleet.CheckMask -/
def F_fleet_CheckMask (p0 : Mask) : Option Int :=
  bindO (F_fleet_within p0.Days 1 1000000) fun x20 =>
  letO (!x20) fun x24 =>
  iteB x24
  (some 9)
  (bindO (F_fleet_checkNames p0.Hide) fun x40 =>
  letO (decide (x40 ≠ 0)) fun x45 =>
  iteB x45
  (some x40)
  (letO (p0.Grains.length : Int) fun x61 =>
  letO (decide (30 < x61)) fun x66 =>
  iteB x66
  (some 3)
  (joinO (fun _ =>
  bindO (F_fleet_within p0.Least 1 1000) fun x730 =>
  letO (!x730) fun x734 =>
  iteB x734
  (some 9)
  (some 0)) fun k394 =>
  letO (p0.Grains.length : Int) fun x397 =>
  F_fleet_CheckMask_L1 p0 k394 x397 0)))

/-- slices.Clone[[]orangebox/api.Sample,orangebox/api.Sample] -/
def F_slices_Clone___api_Sample_api_Sample_ (p0 : List Sample) : Option (List Sample) :=
  nilO p0 fun x18 =>
  iteB x18
  (some [])
  (bindO (app' 24 ([] : List Sample) p0) fun x27 =>
  some x27)

/-- orangebox/fleet.coarse -/
def F_fleet_coarse (p0 : Int) (p1 : Int) : Option Int :=
  bindO (rem' p0 p1) fun x3 =>
  bindO (letO (decide (x3 < 0)) fun x15 =>
  iteB x15
  (letO (IntKind.i64.wrap (x3 + p1)) fun x18 =>
  some x18)
  (some x3)) fun g11 =>
  letO (IntKind.i64.wrap (p0 - g11)) fun x21 =>
  letO (max x21 (-1125899906842624) : Int) fun x23 =>
  some x23

def F_fleet_masked_L3 (x44433 : Grain) (x44459 : Int) : Int × (List Sample) → Option (List Sample) := loopO fun k44641 ⟨g44636, g44637⟩ =>
  letO (decide (g44636 < x44459)) fun x44645 =>
  iteB x44645
  (bindO (bindO (at' g44637 g44636) fun x44691 =>
  letO (decide (2 ≤ x44691.Mark)) fun x44707 =>
  iteB x44707
  (bindO (F_fleet_coarse x44691.N x44433.N) fun x44710 =>
  bindO (at' g44637 g44636) fun x44712 =>
  bindO (set' g44637 g44636 (Sample.mk x44712.At x44710 x44712.Mark)) fun x44723 =>
  some x44723)
  (some g44637)) fun g44687 =>
  letO (IntKind.i64.wrap (g44636 + 1)) fun x44727 =>
  k44641 (x44727, g44687))
  (some g44637)
def F_fleet_masked_L2 (p1 : Mask) (x41026 : Track) (x42901 : Int) : Int × (List Sample) → Option (List Sample) := loopO fun k44123 ⟨g44118, g44119⟩ =>
  letO (decide (g44118 < x42901)) fun x44127 =>
  iteB x44127
  (bindO (bindO (at' p1.Grains g44118) fun x44433 =>
  letO (decide ((x44433.Track : Str) ≠ x41026.Name)) fun x44455 =>
  iteB x44455
  (some g44119)
  (letO (g44119.length : Int) fun x44459 =>
  F_fleet_masked_L3 x44433 x44459 (0, g44119))) fun g44429 =>
  letO (IntKind.i64.wrap (g44118 + 1)) fun x44729 =>
  k44123 (x44729, g44429))
  (some g44119)
def F_fleet_masked_L1 (p0 : Flight) (p1 : Mask) (x22392 : Int) : (List Track) × Int → Option (List Track) := loopO fun k37297 ⟨g37290, g37292⟩ =>
  letO (decide (g37292 < x22392)) fun x37301 =>
  iteB x37301
  (bindO (bindO (at' p0.Tracks g37292) fun x41026 =>
  bindO (F_slices_Contains___string_string_ p1.Hide x41026.Name) fun x41053 =>
  iteB x41053
  (some g37290)
  (bindO (F_slices_Clone___api_Sample_api_Sample_ x41026.Series.Samples) fun x41059 =>
  bindO (letO (p1.Grains.length : Int) fun x42901 =>
  F_fleet_masked_L2 p1 x41026 x42901 (0, x41059)) fun g42897 =>
  letO ([Track.mk x41026.Name (Series.mk x41026.Series.Den g42897) x41026.Long] : List Track) fun _ =>
  bindO (app' 56 g37290 ([Track.mk x41026.Name (Series.mk x41026.Series.Den g42897) x41026.Long] : List Track)) fun x44736 =>
  some x44736)) fun g41021 =>
  letO (IntKind.i64.wrap (g37292 + 1)) fun x44740 =>
  k37297 (g41021, x44740))
  (some g37290)
/-- orangebox/fleet.masked -/
def F_fleet_masked (p0 : Flight) (p1 : Mask) : Option Flight :=
  bindO (iteB p1.Tails
  (some [])
  (some p0.Tail)) fun g21 =>
  bindO (rem' p0.Day p1.Days) fun x28 =>
  letO (IntKind.i64.wrap (p0.Day - x28)) fun x30 =>
  bindO (letO (p0.Tracks.length : Int) fun x22392 =>
  F_fleet_masked_L1 p0 p1 x22392 ([], 0)) fun g22387 =>
  some (Flight.mk g21 p0.Route x30 p0.From p0.To g22387)

/-- orangebox/fleet.Masked -/
def F_fleet_Masked (p0 : Flight) (p1 : Mask) : Option (Flight × Int) :=
  bindO (F_fleet_CheckFlight p0) fun x31 =>
  letO (decide (x31 ≠ 0)) fun x36 =>
  iteB x36
  (some (Flight.mk [] [] 0 0 0 [], x31))
  (bindO (F_fleet_CheckMask p1) fun x55 =>
  letO (decide (x55 ≠ 0)) fun x60 =>
  iteB x60
  (some (Flight.mk [] [] 0 0 0 [], x55))
  (bindO (F_fleet_masked p0 p1) fun x67 =>
  some (x67, 0)))

/-- orangebox/orangeboxlaw9.FleetPeakMatchesSpec -/
def F_law9_FleetPeakMatchesSpec (p0 : Flight) (p1 : Str) (p2 : Int) : Option Bool :=
  bindO (F_fleet_Peak p0 p1) fun ⟨x8, x9, x10⟩ =>
  bindO (F_ref9_Peak p0 p1) fun ⟨x15, x16, x17⟩ =>
  bindO (letO (decide (x8 ≠ x15)) fun x54 =>
  iteB x54
  (some true)
  (letO (!(x9 == x16)) fun x57 =>
  iteB x57
  (some true)
  (letO (decide (x10 ≠ x17)) fun x60 =>
  some x60))) fun g51 =>
  iteB g51
  (some false)
  (letO (decide (p2 < 1)) fun x75 =>
  iteB x75
  (bindO (F_law9_totals) fun x79 =>
  some x79)
  (letO ([Grain.mk p1 p2] : List Grain) fun _ =>
  bindO (F_fleet_Masked p0 (Mask.mk false 1 [] ([Grain.mk p1 p2] : List Grain) 1)) fun ⟨x98, x99⟩ =>
  bindO (letO (decide (x10 ≠ 0)) fun x137 =>
  iteB x137
  (some true)
  (letO (decide (x99 ≠ 0)) fun x140 =>
  some x140)) fun g134 =>
  iteB g134
  (bindO (F_law9_totals) fun x144 =>
  some x144)
  (bindO (F_fleet_Peak x98 p1) fun ⟨x149, x150, x151⟩ =>
  bindO (rem' x8 p2) fun x156 =>
  letO (IntKind.i64.wrap (x8 - x156)) fun x158 =>
  bindO (bindO (rem' x8 p2) fun x172 =>
  letO (decide (x172 < 0)) fun x174 =>
  iteB x174
  (letO (IntKind.i64.wrap (x158 - p2)) fun x177 =>
  some x177)
  (some x158)) fun g168 =>
  bindO (letO (decide (x151 = 0)) fun x204 =>
  iteB x204
  (letO (x150 == x9) fun x207 =>
  iteB x207
  (letO (!x9) fun x210 =>
  iteB x210
  (bindO (F_law9_totals) fun x213 =>
  some x213)
  (letO (max g168 (-1125899906842624) : Int) fun x217 =>
  letO (decide (x149 = x217)) fun x219 =>
  iteB x219
  (bindO (F_law9_totals) fun x222 =>
  some x222)
  (some false)))
  (some false))
  (some false)) fun g201 =>
  some g201)))
end Go.Lf
